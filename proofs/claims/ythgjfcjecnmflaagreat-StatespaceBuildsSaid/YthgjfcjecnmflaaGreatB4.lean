/-
  Calls: readings handed over and handed back.
-/
import Derived.Test.YthgjfcjecnmflaaGreatB3
import Derived.Orders
set_option linter.unusedSimpArgs false
set_option linter.unusedVariables false
set_option linter.unnecessarySimpa false
namespace Go.e6
open Go.RowKit
theorem WI {α β:Type} (f:α->Option β) : ∀ {l:List α} {l':List β},l.mapM f=some l'->l.length=l'.length /\ ∀ (i:Nat) (x:α),l[i]? = some x -> ∃ y,l'[i]? = some y/\f x=some y
 | [],l',h=>by
  simp at h;subst h;exact ⟨rfl,λ i x hx=>by simp at hx⟩
 | x::r,l',h=>by
  simp only[List.mapM_cons,Option.bind_eq_bind,Option.pure_def]at h;cases hx:f x with
  | none=>simp [hx]at h
  | some y =>
   cases hr:r.mapM f with
   | none=>simp [hx,hr]at h
   | some r' =>
    simp [hx,hr]at h;subst h;obtain ⟨h1,h2⟩:=WI f hr;refine ⟨by simp [h1],λ i z hz => ?_⟩;cases i with
    | zero=>simp at hz;subst hz;exact ⟨y,rfl,hx⟩
    | succ i=>exact h2 i z (by simpa using hz)
section
variable {B:Nat} {S:Nat->Prop} {w0:World} {m:M}
variable {P:Program} {num:Nat->Nat} {o:Oper} {a:Act} {ρ:BH->AV}
theorem Pv (hm:CY B S w0 m) (l0:Bool) (R:Bool->Nat->Prop) (hR : ∀ l b,b<m.w.heap.size->safe B S m l b->R l b) (hL : ∀ s t g,live m s t->m.ν s t=some g->R l0 g) :
  ∀ (d:Nat) (c c':AV) (v:Value),snap m.own l0 d c=some c'->CC B S m c v->Rd m.w R c' v:=by
 intro d;induction d with
 | zero =>
  intro c c' v h hc;cases hc with
  | rd hr =>
   have:c'=c:=by cases hr<;>simp [snap]at h<;>exact h.symm
   subst this;exact hr.mono hR (λ_ _ _ _=>rfl)
  | nil=>simp [snap]at h;subst h;exact .jx _ _ _
  | _=>simp [snap]at h
 | succ d ih =>
  intro c c' v h hc;cases hc with
  | rd hr =>
   have:c'=c:=by cases hr<;>simp [snap]at h<;>exact h.symm
   subst this;exact hr.mono hR (λ_ _ _ _=>rfl)
  | nil=>simp [snap]at h;subst h;exact .jx _ _ _
  | ptr=>simp [snap]at h
  | u7=>simp [snap]at h
  | row s t z off len ad cap ht fv kp ha hb =>
   simp only[snap]at h;cases et:G0 m.own (.row s t z off len) with
   | none=>simp [et]at h
   | some es =>
    simp only[et]at h;cases jo:es.mapM (λ cs:List AV=>cs.mapM (snap m.own l0 d)) with
    | none=>simp [jo]at h
    | some es' =>
     simp [jo]at h;subst h;have Lf:(∀ e∈es,e.length=z)/\es.length=len /\ ∃ b,m.own.get s t=some b:=by
      simp only[G0]at et;cases o0:m.own.get s t with
      | none=>simp [o0]at et
      | some b =>
       simp only[o0]at et;split at et
       ·rename_i hle
        obtain rfl:=Option.some.inj et;refine ⟨λ e he => ?_,by simp;omega,b,rfl⟩;rw[<-hle.2];exact (hm.e7 s t b o0).1 e (List.mem_of_mem_drop (List.mem_of_mem_take he))
       ·cases et
     obtain ⟨hz,hlen,b,o0⟩:=Lf;have w5:CV B S m (.row s t z off len) (.slice ad len cap):= .ca (.one (.row s t z off len ad cap ht fv kp ha hb));obtain ⟨ad2,Ie,news,Hi,hE⟩:=mQ hm w5 et hz fv;obtain ⟨rfl,_,rfl⟩:ad=ad2/\len=es.length/\cap=Ie:=by simpa using Hi
     obtain ⟨jr,ui⟩:=WI _ jo;by_cases h0:es=[]
     ·subst h0
      have:es'=[]:=List.eq_nil_of_length_eq_zero (by rw[<-jr];rfl)
      subst this;have:len=0:=by rw[<-hlen];rfl
      subst this;exact .jx _ _ _
     ·obtain ⟨_,ew⟩:=hb b o0
      rcases ew with ⟨ApZ,_⟩|⟨g,arr,e',hg,lf,hh,Jg⟩
      ·exact absurd (List.eq_nil_of_length_eq_zero (by omega)) h0
      ·rw[lf,<-hlen,jr]
       refine .sl l0 es' g (off*z) z cap (λ i j=>news.getD (i*z+j) undef) (λ e=>h0 (List.eq_nil_of_length_eq_zero (by rw[jr,e];rfl))) fv (hL s t g ⟨b,o0⟩ hg) (by omega) (λ e' iw => ?_) (λ i e hi j c hj => ?_) (λ i e hi j c hj => ?_)
       ·obtain ⟨i,hi,rfl⟩:=List.getElem_of_mem iw
        have o9:i<es.length:=by omega
        obtain ⟨y,hy,gx⟩:=ui i es[i] (zE o9);have:es'[i]=y:=by
         have:=(zS hy).2;exact this
        rw[this,<-(WI _ gx).1];exact hz _ (List.getElem_mem o9)
       ·have o9:i<es.length:=by rw[jr];exact (zS hi).1
        obtain ⟨y,hy,gx⟩:=ui i es[i] (zE o9);rw[hi]at hy;obtain rfl:e=y:=by simpa using hy
        obtain ⟨jd,_⟩:=WI _ gx;have uq:j<(es[i]).length:=by rw[jd];exact (zS hj).1
        obtain ⟨u,hu,fq⟩:=hE.rel i es[i] (zE o9) j _ (zE uq);have:=hE.cells _ lf (i*z+j) u hu
        rw[NS]at this;simp only[List.getD,hu,Option.getD_some];exact this
       ·have o9:i<es.length:=by rw[jr];exact (zS hi).1
        obtain ⟨y,hy,gx⟩:=ui i es[i] (zE o9);rw[hi]at hy;obtain rfl:e=y:=by simpa using hy
        obtain ⟨jd,ko⟩:=WI _ gx;have uq:j<(es[i]).length:=by rw[jd];exact (zS hj).1
        obtain ⟨u,hu,fq⟩:=hE.rel i es[i] (zE o9) j _ (zE uq);obtain ⟨c2,vu,zz⟩:=ko j _ (zE uq);rw[hj]at vu;obtain rfl:c=c2:=by simpa using vu
        simp only[List.getD,hu,Option.getD_some];exact ih _ _ _ zz fq
def DA (w:World) (R:Bool->Nat->Prop) (c:AV) (v:Value):Prop :=
 Rd w R c v \/ ∃ (cs:List AV) (vs:List Value),c = .agg cs/\v = .agg vs.toArray/\cs.length=vs.length /\ ∀ (j:Nat) (x:AV) (u:Value),cs[j]? = some x->vs[j]? = some u->Rd w R x u
theorem jP (hm:CY B S w0 m) (l0:Bool) (R:Bool->Nat->Prop) (hR : ∀ l b,b<m.w.heap.size->safe B S m l b->R l b) (hL : ∀ s t g,live m s t->m.ν s t=some g->R l0 g)
  {c c':AV} {v:Value} (h:EJ m.own l0 c=some c') (hc:CV B S m c v):DA m.w R c' v:=by
 cases hc with
 | any v=>simp [EJ,snap]at h
 | g8=>simp [EJ,snap]at h
 | ca hc=>cases hc with
  | one hc =>
   have h':snap m.own l0 6 c=some c':=by
    cases hc with
    | rd hr=>cases hr<;>simpa [EJ] using h
    | _=>simpa [EJ] using h
   exact Or.inl (Pv hm l0 R hR hL 6 c c' v h' hc)
  | fn=>simp [EJ,snap]at h
  | tp=>simp [EJ,snap]at h
  | agg cs vs n8 =>
   simp only[EJ]at h;cases ik:cs.mapM (snap m.own l0 6) with
   | none=>simp [ik]at h
   | some er =>
    simp [ik]at h;subst h;obtain ⟨h1,h2⟩:=WI _ ik;refine Or.inr ⟨er,vs,rfl,rfl,h1.symm.trans n8.1,λ j x u hx hu => ?_⟩;have hj:j<cs.length:=by rw[h1];exact (zS hx).1
    obtain ⟨y,hy,gx⟩:=h2 j cs[j] (zE hj);rw[hx]at hy;obtain rfl:x=y:=by simpa using hy
    exact Pv hm l0 R hR hL 6 _ _ _ gx (n8.2 j cs[j] u (zE hj) hu)
def DV (w:World) (R:Bool->Nat->Prop) (c:AV) (v:Value):Prop :=
 DA w R c v \/ ∃ (cs:List AV) (vs:List Value),c = .g8 cs/\v = .tuple vs.toArray/\cs.length=vs.length /\ ∀ (j:Nat) (x:AV) (u:Value),cs[j]? = some x->vs[j]? = some u->DA w R x u
theorem AiV (hm:CY B S w0 m) (l0:Bool) (R:Bool->Nat->Prop) (hR : ∀ l b,b<m.w.heap.size->safe B S m l b->R l b) (hL : ∀ s t g,live m s t->m.ν s t=some g->R l0 g)
  {c c':AV} {v:Value} (h:XV m.own l0 c=some c') (hc:CV B S m c v):DV m.w R c' v:=by
 by_cases ht : ∃ cs,c = .g8 cs
 ·obtain ⟨cs,rfl⟩:=ht
  obtain ⟨vs,rfl,hl,ag⟩:=mE hc;simp only[XV]at h;cases ik:cs.mapM (EJ m.own l0) with
  | none=>simp [ik]at h
  | some er =>
   simp [ik]at h;subst h;obtain ⟨h1,h2⟩:=WI _ ik;refine Or.inr ⟨er,vs,rfl,rfl,h1.symm.trans hl,λ j x u hx hu => ?_⟩;have hj:j<cs.length:=by rw[h1];exact (zS hx).1
   obtain ⟨y,hy,gx⟩:=h2 j cs[j] (zE hj);rw[hx]at hy;obtain rfl:x=y:=by simpa using hy
   exact jP hm l0 R hR hL gx (.ca (ag j cs[j] u (zE hj) hu))
 ·have h':EJ m.own l0 c=some c':=by
   cases c<;>first|exact h|exact absurd ⟨_,rfl⟩ ht
  exact Or.inl (jP hm l0 R hR hL h' hc)
theorem DA.ca {B:Nat} {S:Nat->Prop} {m:M} {c:AV} {v:Value} (h:DA m.w (safe B S m) c v):CA B S m c v:=by
 rcases h with h|⟨cs,vs,rfl,rfl,hl,hh⟩
 ·exact .one (.rd h)
 ·exact .agg cs vs ⟨hl,λ j x u hx hu => .rd (hh j x u hx hu)⟩
theorem DV.cv {B:Nat} {S:Nat->Prop} {m:M} {c:AV} {v:Value} (h:DV m.w (safe B S m) c v):CV B S m c v:=by
 rcases h with h|⟨cs,vs,rfl,rfl,hl,hh⟩
 ·exact .ca h.ca
 ·exact .g8 cs vs hl λ j x u hx hu=>(hh j x u hx hu).ca
theorem VB : ∀ {cs:List AV},DN cs -> ∀ (j:Nat) (c:AV),cs[j]? = some c->B4 c
 | [],_,j,c,h=>by simp at h
 | x::r,hc,j,c,h=>by
  unfold DN at hc;cases j with
  | zero=>simp at h;subst h;exact hc.1
  | succ j=>exact VB hc.2 j c (by simpa using h)
theorem gD : ∀ {cs:List (List AV)},GF cs -> ∀ (j:Nat) (c:List AV),cs[j]? = some c->DN c
 | [],_,j,c,h=>by simp at h
 | x::r,hc,j,c,h=>by
  unfold GF at hc;cases j with
  | zero=>simp at h;subst h;exact hc.1
  | succ j=>exact gD hc.2 j c (by simpa using h)
theorem Rd.clean {w:World} {R R':Bool->Nat->Prop} (hR : ∀ b,b<w.heap.size->R false b->R' false b) {c:AV} {v:Value} (h:Rd w R c v) (hc:B4 c):Rd w R' c v:=by
 induction h with
 | int k n=>exact .int k n
 | bool b=>exact .bool b
 | str s=>exact .str s
 | lv=>exact .lv
 | jx l a cap=>exact .jx l a cap
 | emp b a cap h=>exact .emp b a cap h
 | sl l es b o b9 cap u m7 hp h1 ck hz n8 hr ih =>
  unfold B4 at hc;obtain ⟨rfl,hc⟩:=hc;obtain ⟨e,c,he,jn⟩:=dA m7 hp hz;have hb:b<w.heap.size:=X8 (n8 0 e he 0 c jn);exact .sl false es b o b9 cap u m7 hp (hR b hb h1) ck hz n8 λ i e he j c hj=>ih i e he j c hj (VB (gD hc i e he) j c hj)
theorem DA.clean {w:World} {R R':Bool->Nat->Prop} (hR : ∀ b,b<w.heap.size->R false b->R' false b) {c:AV} {v:Value} (h:DA w R c v) (hc:B4 c):DA w R' c v:=by
 rcases h with h|⟨cs,vs,rfl,rfl,hl,hh⟩
 ·exact Or.inl (h.clean hR hc)
 ·unfold B4 at hc
  exact Or.inr ⟨cs,vs,rfl,rfl,hl,λ j x u hx hu=>(hh j x u hx hu).clean hR (VB hc j x hx)⟩
theorem DV.clean {w:World} {R R':Bool->Nat->Prop} (hR : ∀ b,b<w.heap.size->R false b->R' false b) {c:AV} {v:Value} (h:DV w R c v) (hc:B4 c):DV w R' c v:=by
 rcases h with h|⟨cs,vs,rfl,rfl,hl,hh⟩
 ·exact Or.inl (h.clean hR hc)
 ·unfold B4 at hc
  exact Or.inr ⟨cs,vs,rfl,rfl,hl,λ j x u hx hu=>(hh j x u hx hu).clean hR (VB hc j x hx)⟩
theorem mD {B:Nat} {S:Nat->Prop} {m:M} {c:AV} {v:Value} (h:CV B S m c v) (hc:B4 c):DV m.w (safe B S m) c v:=by
 have one : ∀ {c:AV} {v:Value},CC B S m c v->B4 c->Rd m.w (safe B S m) c v:=λ h hc=>by
  cases h with
  | rd h=>exact h
  | _=>unfold B4 at hc;exact hc.elim
 have ca : ∀ {c:AV} {v:Value},CA B S m c v->B4 c->DA m.w (safe B S m) c v:=λ h hc=>by
  cases h with
  | one h=>exact Or.inl (one h hc)
  | fn=>unfold B4 at hc;exact hc.elim
  | tp=>unfold B4 at hc;exact hc.elim
  | agg cs vs h =>
   unfold B4 at hc;exact Or.inr ⟨cs,vs,rfl,rfl,h.1,λ j x u hx hu=>one (h.2 j x u hx hu) (VB hc j x hx)⟩
 cases h with
 | any v=>unfold B4 at hc;exact hc.elim
 | ca h=>exact Or.inl (ca h hc)
 | g8 as vs hl h =>
  unfold B4 at hc;exact Or.inr ⟨as,vs,rfl,rfl,hl,λ j x u hx hu=>ca (h j x u hx hu) (VB hc j x hx)⟩
theorem iZ {f:Nat} {xs:Array Operand} {ts:Array TypeId} (l9:o.op = .call ⟨.value (.func f),xs,ts⟩) {w:World} (h:(callFunc f (xs.map a.eval)).run P w = .ok (.enter f (xs.map a.eval)) w):(execOp a.eval o).run P w = .ok (.enter f (xs.map a.eval)) w:=by
 simp [execOp,l9,resolve,Deferred.ofValue,Act.eval,invoke];exact h
theorem vH {C:Cl} (hC:LD P num C) (hm:CY B S w0 m) {f:Nat} {us:List Value} {as:List AV} (hl:us.length=as.length) (hx : ∀ (j:Nat) (v:Value) (c:AV),us[j]? = some v->as[j]? = some c->CV B S m c v) (hex : ∀ w:World,(callFunc (num f) us.toArray).run P w = .ok (.enter (num f) us.toArray) w->(execOp a.eval o).run P w = .ok (.enter (num f) us.toArray) w) {vs:List AV} {r:AV} (hv:as.mapM (EJ m.own true)=some vs) (hr:C.pure f vs=some r):EG B S w0 P o a m (.val r):=by
 obtain ⟨jd,ko⟩:=WI _ hv;have km : ∀ (j:Nat) (c:AV) (v:Value),vs[j]? = some c->us[j]? = some v->CA m.w.heap.size (safe B S m false) ⟨λ_ _=>none,BC.emp,m.w⟩ c v:=by
  intro j c v hc sw;have gj:j<as.length:=by rw[<-hl];exact (zS sw).1
  obtain ⟨y,hy,gx⟩:=ko j as[j] (zE gj);rw[hc]at hy;obtain rfl:c=y:=by simpa using hy
  have w5:=hx j v as[j] sw (zE gj);have Ba:=jP hm true (safe m.w.heap.size (safe B S m false) ⟨λ_ _=>none,BC.emp,m.w⟩) (λ l b hb yg=>by
   cases l with
   | false=>exact .inl ⟨yg,hb⟩
   | true=>exact .inr (.inr ⟨rfl,hb⟩)) (λ s t g iq hg=>by
   obtain ⟨_,arr,e,hh⟩:=hm.ge iq hg;exact .inr (.inr ⟨rfl,(Array.getElem?_eq_some_iff.1 hh).1⟩)) gx w5
  exact DA.ca (m:=⟨λ_ _=>none,BC.emp,m.w⟩) Ba
 have fk:=hC.pure f vs r hr (safe B S m false) m.w us (by rw[<-jd];exact hl.symm) km;intro K Q hK;unfold Oper.wp;rw[hex _ (hC.tn f vs r hr _ _)];refine Calls.mono fk λ e w' ⟨u,iw,jm,w5,n8⟩ => ?_
 subst iw;obtain ⟨mf,gb⟩:=grow hm jm;refine hK u ⟨m.ν,m.own,w'⟩ rfl mf gb ?_;refine DV.cv (m:=⟨m.ν,m.own,w'⟩) ((mD w5 n8).clean (λ b hb yg => ?_) n8);rcases yg with ⟨h1,h2⟩|⟨h1,_⟩|⟨h1,_⟩
 ·exact gb.Am false b h2 h1
 ·refine .inr (.inl ⟨Nat.le_trans hm.size h1,λ s t iq hg => ?_⟩)
  obtain ⟨b',l7⟩:=Option.isSome_iff_exists.1 iq;obtain ⟨_,arr,e,hh⟩:=hm.ge ⟨b',l7⟩ hg;have:=(Array.getElem?_eq_some_iff.1 hh).1
  omega
 ·cases h1
theorem vG {C:Cl} (hC:LD P num C) (hm:CY B S w0 m) (hs:D9 B S m ρ a.eval) {f:Nat} {xs:Array Operand} {n9:List BH} (he:GK xs.toList n9=true) (hex : ∀ w:World,(callFunc (num f) (xs.map a.eval)).run P w = .ok (.enter (num f) (xs.map a.eval)) w->(execOp a.eval o).run P w = .ok (.enter (num f) (xs.map a.eval)) w) {vs:List AV} {r:AV} (hv:(n9.map ρ).mapM (EJ m.own true)=some vs) (hr:C.pure f vs=some r):EG B S w0 P o a m (.val r):=by
 obtain ⟨hl,hx⟩:=YI hs he;have gk:(xs.map a.eval)=(xs.toList.map a.eval).toArray:=by cases xs;simp
 rw[gk]at hex;refine vH hC hm (us:=xs.toList.map a.eval) (as:=n9.map ρ) (by simp [hl]) (λ j v c h1 h2 => ?_) hex hv hr;rw[List.getElem?_map]at h1 h2;cases kt:xs.toList[j]? with
 | none=>simp [kt]at h1
 | some x =>
  cases ku:n9[j]? with
  | none=>simp [ku]at h2
  | some y =>
   simp only[kt,ku,Option.map_some,Option.some.injEq]at h1 h2;subst h1 h2;exact hx j x y kt ku
theorem Aen {C:Cl} (hC:LD P num C) (hm:CY B S w0 m) (hs:D9 B S m ρ a.eval) {f:Nat} {n9:List BH} (h:CH P num o.op (.call f n9)=true) {vs:List AV} {r:AV} (hv:(n9.map ρ).mapM (EJ m.own true)=some vs) (hr:C.pure f vs=some r):EG B S w0 P o a m (.val r):=by
 obtain ⟨xs,ts,l9,he⟩:=oT h;exact vG hC hm hs he (λ w h=>iZ l9 h) hv hr
theorem vD {C:Cl} (hC:LD P num C) (hm:CY B S w0 m) (hs:D9 B S m ρ a.eval) {f:Nat} {n9:List BH} (h:CH P num o.op (.g7 f n9)=true) {r:AV} {n0:BC} (hr:C.iv f (n9.map ρ) m.own=some (r,n0)):EG B S w0 P o a m (.dt r n0):=by
 obtain ⟨xs,ts,l9,he⟩:=Ag4 h;obtain ⟨hl,hx⟩:=YI hs he;have gk:(xs.map a.eval)=(xs.toList.map a.eval).toArray:=by cases xs;simp
 have fk:=hC.iv f (n9.map ρ) m.own r n0 hr B S w0 m (xs.toList.map a.eval) rfl hm (by simp [hl]) (λ j c v hc hv=>by
  rw[List.getElem?_map]at hc hv;cases kt:xs.toList[j]? with
  | none=>simp [kt]at hv
  | some x =>
   cases ku:n9[j]? with
   | none=>simp [ku]at hc
   | some y =>
    simp [kt]at hv;simp [ku]at hc;subst hv hc;exact hx j x y kt ku)
 intro K Q hK;unfold Oper.wp;rw[iZ l9 (hC.og f _ _ _ hr _ _),gk];refine Calls.mono fk λ e w' ⟨u,m',iw,hw,l6,mf,gb,w5⟩ => ?_
 subst iw hw;exact hK u m' l6 mf gb w5
theorem Ade (hm:CY B S w0 m) {w':World} (hb:Below m.w.heap.size m.w w') (s:Nat) (b:GE) (gg:Option Nat) (hz : ∀ x∈b.es,x.length=b.b9)
  (hg:match gg with|none=>b.es=[]|some g=>m.w.heap.size<=g /\ ∃ arr e,w'.heap[g]? = some (.cells arr e (0,0)) /\ ∀ i cs,b.es[i]? = some cs -> ∀ j c,cs[j]? = some c -> ∃ u,arr[i*b.b9+j]? = some u/\CC B S ⟨j8 m s gg,m.own.put s ((m.own s).new b),w'⟩ c u) :
  CY B S w0 ⟨j8 m s gg,m.own.put s ((m.own s).new b),w'⟩/\FP B S m ⟨j8 m s gg,m.own.put s ((m.own s).new b),w'⟩:=by
 have hν : ∀ s' t',live m s' t'->j8 m s gg s' t'=m.ν s' t':=λ s' t' hl=>by
  unfold j8;rw[if_neg];rintro ⟨rfl,rfl⟩
  exact iK hm _ hl
 have mz : ∀ g,gg=some g->m.w.heap.size<=g:=λ g e=>by subst e;exact hg.1
 have he:FP B S m ⟨j8 m s gg,m.own.put s ((m.own s).new b),w'⟩:=by
  refine YO hm hb.size (λ k hk _=>hb.block k hk) (λ s' => ?_) (λ s' t' b' ht l7 => ?_) (λ s' t' g hl eu l8 => ?_)
  ·rw[Q0];split
   ·rename_i h;subst h;omega
   ·exact Nat.le_refl _
  ·rw[JU]at l7
   rw[if_neg (by rintro ⟨rfl,rfl⟩;omega)]at l7;refine ⟨b',l7,rfl,hν s' t' ⟨b',l7⟩,λ g ar e' eu ha=>⟨ar,?_,rfl⟩⟩;exact (hb.block g (Array.getElem?_eq_some_iff.1 ha).1).trans ha
  ·obtain ⟨b',l7⟩:=hl
   rw[JU]at l7;by_cases h:s'=s/\t'=m.own.j5 s
   ·simp only[j8,if_pos h]at eu
    have:=mz g eu
    omega
   ·rw[if_neg h]at l7
    exact ⟨s',t',⟨b',l7⟩,by rw[<-hν s' t' ⟨b',l7⟩];exact eu⟩
 refine ⟨⟨hm.below.trans (hb.mono hm.size),Nat.le_trans hm.size hb.size,λ s' t' ht => ?_,λ s' t' b' l7 => ?_,λ s1 t1 s2 t2 b1 b2 g h1 h2 g1 g2 => ?_⟩,he⟩
 ·rw[Q0]at ht
  rw[JU,if_neg]
  ·refine hm.fresh s' t' ?_
   split at ht
   ·rename_i h;subst h;omega
   ·exact ht
  ·rintro ⟨rfl,rfl⟩
   simp at ht;omega
 ·rw[JU]at l7
  by_cases h:s'=s/\t'=m.own.j5 s
  ·rw[if_pos h]at l7
   obtain rfl:b=b':=by simpa using l7
   refine ⟨hz,?_⟩;show match j8 m s gg s' t' with|none=>_|some g=>_
   rw[show j8 m s gg s' t'=gg by simp [j8,h]];cases gg with
   | none=>exact hg
   | some g=>exact ⟨Nat.le_trans hm.size hg.1,hg.2⟩
  ·rw[if_neg h]at l7
   obtain ⟨h1,h2⟩:=hm.e7 s' t' b' l7;refine ⟨h1,?_⟩;show match j8 m s gg s' t' with|none=>_|some g=>_
   rw[hν s' t' ⟨b',l7⟩];cases hv:m.ν s' t' with
   | none=>rw[hv]at h2;exact h2
   | some g =>
    rw[hv]at h2;obtain ⟨h3,ar,e',h4,h5⟩:=h2;refine ⟨h3,ar,e',(hb.block g (Array.getElem?_eq_some_iff.1 h4).1).trans h4,λ i cs hi j c hj => ?_⟩;obtain ⟨u,hu,ag⟩:=h5 i cs hi j c hj;exact ⟨u,hu,he.cc ag⟩
 ·rw[JU]at h1 h2
  have lt : ∀ s' t' b',m.own.get s' t'=some b'->j8 m s gg s' t'=some g->g<m.w.heap.size:=λ s' t' b' l7 eu=>by
   rw[hν s' t' ⟨b',l7⟩]at eu;obtain ⟨_,ar,e',h4⟩:=hm.ge ⟨b',l7⟩ eu;exact (Array.getElem?_eq_some_iff.1 h4).1
  have at_ : ∀ s' t',s'=s/\t'=m.own.j5 s->j8 m s gg s' t'=some g->m.w.heap.size<=g:=λ s' t' h eu=>by
   simp only[j8,if_pos h]at eu;exact mz g eu
  by_cases p1:s1=s/\t1=m.own.j5 s<;>by_cases p2:s2=s/\t2=m.own.j5 s
  ·exact ⟨p1.1.trans p2.1.symm,p1.2.trans p2.2.symm⟩
  ·rw[if_neg p2]at h2
   have:=lt s2 t2 b2 h2 g2
   have:=at_ s1 t1 p1 g1
   omega
  ·rw[if_neg p1]at h1
   have:=lt s1 t1 b1 h1 g1
   have:=at_ s2 t2 p2 g2
   omega
  ·rw[if_neg p1]at h1
   rw[if_neg p2]at h2;exact hm.inj s1 t1 s2 t2 b1 b2 g h1 h2 (by rw[<-hν s1 t1 ⟨b1,h1⟩];exact g1) (by rw[<-hν s2 t2 ⟨b2,h2⟩];exact g2)
theorem Aer {C:Cl} (hC:LD P num C) (hm:CY B S w0 m) (hs:D9 B S m ρ a.eval) {s f:Nat} {n9:List BH} (h:CH P num o.op (.o8 s f n9)=true) {vs:List AV} (hv:(n9.map ρ).mapM (VT m.own true)=some vs) {z:Nat} {es:List (List AV)} (hr:U6 (C.iv f vs BC.emp)=some (z,es)) :
  EG B S w0 P o a m (.new s ⟨z,es⟩ (λ t => .row s t z 0 es.length)):=by
 obtain ⟨xs,ts,l9,he⟩:=oT (Ag6 h);obtain ⟨s0,t0,o',b0,Cu,o0,rfl,n8⟩:=Add hr;obtain ⟨hl,hx⟩:=YI hs he;obtain ⟨jd,ko⟩:=WI _ hv;have gk:(xs.map a.eval)=(xs.toList.map a.eval).toArray:=by cases xs;simp
 have km : ∀ (j:Nat) (c:AV) (v:Value),vs[j]? = some c->(xs.toList.map a.eval)[j]? = some v->CV m.w.heap.size (safe B S m false) ⟨λ_ _=>none,BC.emp,m.w⟩ c v:=by
  intro j c v hc sw;rw[List.getElem?_map]at sw;cases kt:xs.toList[j]? with
  | none=>simp [kt]at sw
  | some x =>
   simp [kt]at sw;subst sw;have gj:j<n9.length:=by rw[<-hl];exact (zS kt).1
   obtain ⟨y,hy,gx⟩:=ko j (ρ n9[j]) (by rw[List.getElem?_map,zE gj];rfl);rw[hc]at hy;obtain rfl:c=y:=by simpa using hy
   have w5:=hx j x n9[j] kt (zE gj);have hN:(ρ n9[j] = .nil/\c = .nil)\/EJ m.own true (ρ n9[j])=some c:=by
    cases e:ρ n9[j] with
    | nil=>rw[e]at gx;exact .inl ⟨rfl,(Option.some.inj gx).symm⟩
    | _=>rw[e]at gx;exact .inr gx
   rcases hN with ⟨e1,rfl⟩|gx
   ·rw[e1]at w5
    rw[ZS w5];exact .ca (.one .nil)
   have Ba:=jP hm true (safe m.w.heap.size (safe B S m false) ⟨λ_ _=>none,BC.emp,m.w⟩) (λ l b hb yg=>by
    cases l with
    | false=>exact .inl ⟨yg,hb⟩
    | true=>exact .inr (.inr ⟨rfl,hb⟩)) (λ s t g iq hg=>by
    obtain ⟨_,arr,e,hh⟩:=hm.ge iq hg;exact .inr (.inr ⟨rfl,(Array.getElem?_eq_some_iff.1 hh).1⟩)) gx w5
   exact .ca (DA.ca (m:=⟨λ_ _=>none,BC.emp,m.w⟩) Ba)
 have hm0:CY m.w.heap.size (safe B S m false) m.w ⟨λ_ _=>none,BC.emp,m.w⟩:=⟨Below.refl _ _,Nat.le_refl _,λ_ _ _=>rfl,(λ s t b h=>by cases h),(λ_ _ _ _ _ _ _ h=>by cases h)⟩;have fk:=hC.iv f vs BC.emp _ o' Cu m.w.heap.size (safe B S m false) m.w ⟨λ_ _=>none,BC.emp,m.w⟩ (xs.toList.map a.eval) rfl hm0 (by rw[<-jd];simp [hl]) km;intro K Q hK;unfold Oper.wp;rw[iZ l9 (hC.og f _ _ _ Cu _ _),gk];refine Calls.mono fk λ e w' ⟨u,m',iw,hw,l6,mf,Ru,w5⟩ => ?_
 subst iw hw;have jm:Below m.w.heap.size m.w m'.w:=mf.below;rw[<-l6]at o0;obtain ⟨hz,mv⟩:=mf.e7 s0 t0 b0 o0;obtain ⟨ad,cap,rfl,ht,fv,kp,ha,hb⟩:=ZT w5;obtain ⟨jt,ew⟩:=hb b0 o0;subst jt;have hold : ∀ s t g,live m s t->m.ν s t=some g->g<m.w.heap.size:=λ s t g iq hg=>by
  obtain ⟨_,arr,e,hh⟩:=hm.ge iq hg;exact (Array.getElem?_eq_some_iff.1 hh).1
 have Bj : ∀ s' t' g,live ⟨j8 m s (m'.ν s0 t0),m.own.put s ((m.own s).new ⟨b0.b9,b0.es⟩),m'.w⟩ s' t'->j8 m s (m'.ν s0 t0) s' t'=some g->g<m.w.heap.size\/m'.ν s0 t0=some g:=λ s' t' g iq hg=>by
  obtain ⟨b',l7⟩:=iq;rw[JU]at l7;by_cases m9:s'=s/\t'=m.own.j5 s
  ·simp only[j8,if_pos m9]at hg
   exact Or.inr hg
  ·rw[if_neg m9]at l7
   simp only[j8,if_neg m9]at hg;exact Or.inl (hold s' t' g ⟨b',l7⟩ hg)
 have hR : ∀ b,b<m'.w.heap.size->safe m.w.heap.size (safe B S m false) m' false b->safe B S ⟨j8 m s (m'.ν s0 t0),m.own.put s ((m.own s).new ⟨b0.b9,b0.es⟩),m'.w⟩ false b:=λ b hbs yg=>by
  rcases yg with ⟨h1,h2⟩|⟨h1,h2⟩|⟨h1,_⟩
  ·rcases h1 with h1|⟨h1,h3⟩|⟨h1,_⟩
   ·exact .inl h1
   ·refine .inr (.inl ⟨h1,λ s' t' iq hg => ?_⟩)
    obtain ⟨b',l7⟩:=Option.isSome_iff_exists.1 iq;have s8:=l7;rw[JU]at s8;by_cases m9:s'=s/\t'=m.own.j5 s
    ·simp only[j8,if_pos m9]at hg
     rw[hg]at mv;have:=mv.1
     omega
    ·rw[if_neg m9]at s8
     simp only[j8,if_neg m9]at hg;exact h3 s' t' (by rw[s8];rfl) hg
   ·cases h1
  ·refine .inr (.inl ⟨Nat.le_trans hm.size h1,λ s' t' iq hg => ?_⟩)
   rcases Bj s' t' b (Option.isSome_iff_exists.1 iq) hg with h3|h3
   ·omega
   ·exact h2 s0 t0 (by rw[o0];rfl) h3
  ·cases h1
 obtain ⟨Bk,gb⟩:=Ade hm jm s ⟨b0.b9,b0.es⟩ (m'.ν s0 t0) hz (by
  cases hν:m'.ν s0 t0 with
  | none=>rw[hν]at mv;exact mv
  | some g =>
   rw[hν]at mv hR;obtain ⟨h1,arr,e,h2,h3⟩:=mv;refine ⟨h1,arr,e,h2,λ i cs hi j c hj => ?_⟩;obtain ⟨u,hu,ag⟩:=h3 i cs hi j c hj;refine ⟨u,hu,.rd ?_⟩;have qz:=VB (gD n8 i cs hi) j c hj;have mh:Rd m'.w (safe m.w.heap.size (safe B S m false) m') c u:=by
    cases ag with
    | rd h=>exact h
    | _=>unfold B4 at qz;exact qz.elim
   exact mh.clean hR qz)
 refine hK _ ⟨j8 m s (m'.ν s0 t0),m.own.put s ((m.own s).new ⟨b0.b9,b0.es⟩),m'.w⟩ rfl Bk gb (.ca (.one (.row s (m.own.j5 s) b0.b9 0 b0.es.length ad cap (by show m.own.j5 s<BC.j5 (m.own.put s _) s;rw[Q0,if_pos rfl];omega) fv kp ha λ b1 Ay => ?_)));have En:(m.own.put s ((m.own s).new ⟨b0.b9,b0.es⟩)).get s (m.own.j5 s)=some b1:=Ay;rw[JU,if_pos ⟨rfl,rfl⟩]at En;obtain rfl:=Option.some.inj En;refine ⟨rfl,?_⟩;rcases ew with h0|⟨g,arr,e,hg,lf,hh,hle⟩
 ·exact .inl h0
 ·exact .inr ⟨g,arr,e,by simp [j8,hg],lf,hh,hle⟩
theorem uT {p:Bool} {f g:Nat} {cs:List AV} {v:Value} (h:CV B S m (.fn p f g cs) v) (hp:p=false\/cs=[]) : ∃ vs:List Value,v = .func (.func g) #[] vs.toArray/\CL B S m cs vs:=by
 cases h with
 | ca h=>cases h with
  | one h=>cases h with
   | rd h=>cases h
  | fn p f g cs vs hp h=>exact ⟨vs,rfl,h⟩
  | tp f g cs vs m7 h =>
   rcases hp with hp|hp
   ·cases hp
   ·exact absurd hp m7
theorem AdQ {f g:Nat} {cs:List AV} {v:Value} (h:CV B S m (.fn true f g cs) v) (m7:cs≠[]) : ∃ vs:List Value,v = .func (.func g) #[.agg vs.toArray] #[]/\CL B S m cs vs:=by
 cases h with
 | ca h=>cases h with
  | one h=>cases h with
   | rd h=>cases h
  | fn p f g cs vs hp h=>exact absurd (hp rfl) m7
  | tp f g cs vs m7 h=>exact ⟨vs,rfl,h⟩
theorem Nk {f:Nat} {x:Operand} {xs:Array Operand} {ts:Array TypeId} {vs:Array Value} (l9:o.op = .call ⟨.value x,xs,ts⟩) (hx:a.eval x = .func (.func f) #[] vs) {w:World} (h:(callFunc f (xs.map a.eval++vs)).run P w = .ok (.enter f (xs.map a.eval++vs)) w):(execOp a.eval o).run P w = .ok (.enter f (xs.map a.eval++vs)) w:=by
 simp [execOp,l9,resolve,Deferred.ofValue,hx,invoke];exact h
theorem Aes {C:Cl} (hC:LD P num C) (hm:CY B S w0 m) (hs:D9 B S m ρ a.eval) {x':BH} {n9:List BH} (h:CH P num o.op (.o3 x' n9)=true) {f:Nat} {cs:List AV} (hf:ρ x' = .fn false f (num f) cs) {r:AV} {n0:BC} (hr:C.iv f (n9.map ρ++cs) m.own=some (r,n0)):EG B S w0 P o a m (.dt r n0):=by
 obtain ⟨x,xs,ts,l9,rl,he⟩:=oU h;obtain ⟨hl,hx⟩:=YI hs he;obtain ⟨vs,hv,n8⟩:=uT (hf ▸ hs x x' rl) (.inl rfl);have gk:(xs.map a.eval++vs.toArray)=(xs.toList.map a.eval++vs).toArray:=by cases xs;simp
 have fk:=hC.iv f (n9.map ρ++cs) m.own r n0 hr B S w0 m (xs.toList.map a.eval++vs) rfl hm (by simp [hl,n8.1]) (λ j c v hc hv=>by
  by_cases hj:j<n9.length
  ·rw[List.getElem?_append_left (by simpa using hj),List.getElem?_map]at hc
   rw[List.getElem?_append_left (by simpa [hl] using hj),List.getElem?_map]at hv;have Cv:j<xs.toList.length:=by rw[hl];exact hj
   rw[zE hj]at hc;rw[zE Cv]at hv;simp only[Option.map_some,Option.some.injEq]at hc hv;subst hc hv;exact hx j _ _ (zE Cv) (zE hj)
  ·rw[List.getElem?_append_right (by simpa using hj),List.length_map]at hc
   rw[List.getElem?_append_right (by simpa [hl] using hj),List.length_map,hl]at hv;exact .ca (.one (n8.2 _ c v hc hv)))
 intro K Q hK;unfold Oper.wp;rw[Nk l9 hv (hC.og f _ _ _ hr _ _),gk];refine Calls.mono fk λ e w' ⟨u,m',iw,hw,l6,mf,gb,w5⟩ => ?_
 subst iw hw;exact hK u m' l6 mf gb w5
theorem Aep {C:Cl} (hC:LD P num C) (hm:CY B S w0 m) (hs:D9 B S m ρ a.eval) {x':BH} {n9:List BH} (h:CH P num o.op (.o3 x' n9)=true) {f:Nat} (hf:ρ x' = .fn true f (num f) []) {vs:List AV} {r:AV} (hv:(n9.map ρ).mapM (EJ m.own true)=some vs) (hr:C.pure f vs=some r):EG B S w0 P o a m (.val r):=by
 obtain ⟨x,xs,ts,l9,rl,he⟩:=oU h;obtain ⟨us,hu,n8⟩:=uT (hf ▸ hs x x' rl) (.inr rfl);have La:us=[]:=List.eq_nil_of_length_eq_zero (by rw[<-n8.1];rfl);subst La;refine vG hC hm hs he (λ w h => ?_) hv hr;have:=Nk (P:=P) (w:=w) l9 hu (by simpa using h)
 simpa using this
theorem Aix {f:Nat} {x:Operand} {xs:Array Operand} {ts:Array TypeId} {u:Value} (l9:o.op = .call ⟨.value x,xs,ts⟩) (hx:a.eval x = .func (.func f) #[u] #[]) {w:World} (h:(callFunc f (#[u]++xs.map a.eval)).run P w = .ok (.enter f (#[u]++xs.map a.eval)) w):(execOp a.eval o).run P w = .ok (.enter f (#[u]++xs.map a.eval)) w:=by
 simp [execOp,l9,resolve,Deferred.ofValue,hx,invoke];exact h
theorem Aeo {C:Cl} (hC:LD P num C) (hm:CY B S w0 m) (hs:D9 B S m ρ a.eval) {x':BH} {n9:List BH} (h:CH P num o.op (.o3 x' n9)=true) {f:Nat} {c:AV} {cs:List AV} (hf:ρ x' = .fn true f (num f) (c::cs)) {vs:List AV} {r:AV} (hv:(AV.agg (c::cs)::n9.map ρ).mapM (EJ m.own true)=some vs) (hr:C.pure f vs=some r):EG B S w0 P o a m (.val r):=by
 obtain ⟨x,xs,ts,l9,rl,he⟩:=oU h;obtain ⟨us,hu,n8⟩:=AdQ (hf ▸ hs x x' rl) (by simp);obtain ⟨hl,hx⟩:=YI hs he;have gk:(#[Value.agg us.toArray]++xs.map a.eval)=(Value.agg us.toArray::xs.toList.map a.eval).toArray:=by cases xs;simp
 refine vH hC hm (us:=Value.agg us.toArray::xs.toList.map a.eval) (as:=AV.agg (c::cs)::n9.map ρ) (by simp [hl]) (λ j v c' h1 h2 => ?_) (λ w h=>by
  rw[<-gk]at h ⊢;exact Aix l9 hu h) hv hr
 cases j with
 | zero =>
  simp only[List.getElem?_cons_zero,Option.some.injEq]at h1 h2;subst h1 h2;exact .ca (.agg _ _ n8)
 | succ j =>
  rw[List.getElem?_cons_succ,List.getElem?_map]at h1 h2;cases kt:xs.toList[j]? with
  | none=>simp [kt]at h1
  | some x =>
   cases ku:n9[j]? with
   | none=>simp [ku]at h2
   | some y =>
    simp only[kt,ku,Option.map_some,Option.some.injEq]at h1 h2;subst h1 h2;exact hx j x y kt ku
theorem Rd.to1 {w:World} {R R':Bool->Nat->Prop} (hR : ∀ l b,b<w.heap.size->R l b -> ∀ l',R' l' b) {c:AV} {v:Value} (h:Rd w R c v) (hq:JY c=true):Rd w R' (aU c) v:=by
 cases h with
 | int k n=>exact .int k n
 | bool b=>exact .bool b
 | str s=>simp [JY]at hq
 | lv=>simp [JY]at hq
 | emp=>simp [JY]at hq
 | jx l a cap=>exact .jx false a cap
 | sl l es b o b9 cap u m7 hp h1 ck hz n8 hr =>
  obtain ⟨e,c,he,jn⟩:=dA m7 hp hz;have hb:b<w.heap.size:=X8 (n8 0 e he 0 c jn);exact .sl false es b o b9 cap u m7 hp (hR l b hb h1 false) ck hz n8 λ i e he j c hj=>(hr i e he j c hj).mono (λ l b hb h=>hR l b hb h l) (λ_ _ _ _=>rfl)
theorem Rd.yy {w:World} {R R':Bool->Nat->Prop} (hR : ∀ b,b<w.heap.size->R false b->R' true b) {c:AV} {v:Value} (h:Rd w R c v) (hc:B4 c) (hf:bF c):Rd w R' (dK c) v:=by
 cases h with
 | int k n=>exact .int k n
 | bool b=>exact .bool b
 | str s=>exact hf.elim
 | lv=>exact hf.elim
 | emp=>exact hf.elim
 | jx l a cap=>exact .jx true a cap
 | sl l es b o b9 cap u m7 hp h1 ck hz n8 hr =>
  unfold B4 at hc;obtain ⟨rfl,hc⟩:=hc;obtain ⟨e,c,he,jn⟩:=dA m7 hp hz;have hb:b<w.heap.size:=X8 (n8 0 e he 0 c jn);refine .sl true es b o b9 cap u m7 hp (hR b hb h1) ck hz n8 λ i e he j c hj => ?_
  have Ka:=hf e (zM he) c (zM hj);have Sl:=hr i e he j c hj;generalize u i j=vv at Sl ⊢;cases Sl<;>first|exact .int _ _|exact .bool _|(simp [Oj]at Ka)
theorem oX : ∀ l:List AV,RN l=l.map NX
 | []=>by simp [RN]
 | c::r=>by rw[RN,oX r];rfl
theorem zO : ∀ l:List (List AV),dI l=l.map λ e=>e.map NX
 | []=>by simp [dI]
 | c::r=>by rw[dI,zO r,oX];rfl
theorem Rd.yz {w:World} {R R':Bool->Nat->Prop} (hR : ∀ b,b<w.heap.size->R false b->R' true b) {c:AV} {v:Value} (h:Rd w R c v):B4 c->Rd w R' (NX c) v:=by
 induction h with
 | int k n=>intro _;exact .int k n
 | bool b=>intro _;exact .bool b
 | str s=>intro _;exact .str s
 | lv=>intro _;exact .lv
 | emp b a cap h=>intro _;exact .emp b a cap h
 | jx l a cap=>intro _;exact .jx true a cap
 | sl l es b o b9 cap u m7 hp h1 ck hz n8 hr ih =>
  intro hc;unfold B4 at hc;obtain ⟨rfl,hc⟩:=hc;obtain ⟨e,c,he,jn⟩:=dA m7 hp hz;have hb:b<w.heap.size:=X8 (n8 0 e he 0 c jn);have zl : ∀ (i:Nat) (e':List AV),(es.map λ e:List AV=>e.map NX)[i]? = some e' -> ∃ e,es[i]? = some e/\e'=e.map NX:=λ i e' h=>by
   rw[List.getElem?_map]at h;cases hi:es[i]? with
   | none=>simp [hi]at h
   | some e=>exact ⟨e,rfl,by simpa [hi] using h.symm⟩
  have Em : ∀ (e:List AV) (j:Nat) (c':AV),(e.map NX)[j]? = some c' -> ∃ c,e[j]? = some c/\c'=NX c:=λ e j c' h=>by
   rw[List.getElem?_map]at h;cases hi:e[j]? with
   | none=>simp [hi]at h
   | some c=>exact ⟨c,rfl,by simpa [hi] using h.symm⟩
  have key:=Rd.sl (w:=w) (R:=R') true (es.map λ e:List AV=>e.map NX) b o b9 cap u (by simpa using m7) hp (hR b hb h1) (by simpa using ck)
   (λ e' iw=>by
    obtain ⟨e,he,rfl⟩:=List.mem_map.1 iw;rw[List.length_map];exact hz e he)
   (λ i e' hi j c' hj=>by
    obtain ⟨e,he,rfl⟩:=zl i e' hi;obtain ⟨c,Cr,rfl⟩:=Em e j c' hj;exact n8 i e he j c Cr)
   (λ i e' hi j c' hj=>by
    obtain ⟨e,he,rfl⟩:=zl i e' hi;obtain ⟨c,Cr,rfl⟩:=Em e j c' hj;exact ih i e he j c Cr (VB (gD hc i e he) j c Cr))
  rw[List.length_map]at key;rw[NX,zO];exact key
theorem Aeq {C:Cl} (hC:LD P num C) (hm:CY B S w0 m) (hs:D9 B S m ρ a.eval) {f:Nat} {n9:List BH} (h:CH P num o.op (.m6 f n9)=true) (hq:(n9.map ρ).all dq=true) {r:AV} (hr:C.pure f ((n9.map ρ).map wk)=some r) (Jo:QG r\/ZI r):EG B S w0 P o a m (.val (RO r)):=by
 obtain ⟨xs,ts,l9,he⟩:=oT (Ag5 h);obtain ⟨hl,hx⟩:=YI hs he;have gk:(xs.map a.eval)=(xs.toList.map a.eval).toArray:=by cases xs;simp
 have hR : ∀ l b,b<m.w.heap.size->safe B S m l b -> ∀ l',safe m.w.heap.size (safe B S m true) ⟨λ_ _=>none,BC.emp,m.w⟩ l' b:=λ l b hb h l' => .inl ⟨qK h,hb⟩
 have hcell : ∀ (c:AV) (v:Value),CC B S m c v->JY c=true->Rd m.w (safe m.w.heap.size (safe B S m true) ⟨λ_ _=>none,BC.emp,m.w⟩) (aU c) v:=λ c v hc hd=>by
  cases hc with
  | rd hr=>exact hr.to1 hR hd
  | nil=>exact .jx false none 0
  | row=>simp [JY]at hd
  | ptr=>simp [JY]at hd
  | u7=>simp [JY]at hd
 have km : ∀ (j:Nat) (c:AV) (v:Value),((n9.map ρ).map wk)[j]? = some c->(xs.toList.map a.eval)[j]? = some v->CA m.w.heap.size (safe B S m true) ⟨λ_ _=>none,BC.emp,m.w⟩ c v:=by
  intro j c v hc sw;rw[List.getElem?_map,List.getElem?_map]at hc;rw[List.getElem?_map]at sw;cases kt:xs.toList[j]? with
  | none=>simp [kt]at sw
  | some x =>
   cases ku:n9[j]? with
   | none=>simp [ku]at hc
   | some y =>
    simp [kt]at sw;simp [ku]at hc;subst sw hc;have w5:=hx j x y kt ku;have hd:dq (ρ y)=true:=List.all_eq_true.1 hq _ (List.mem_map_of_mem (zM ku));generalize ρ y=cy at w5 hd ⊢;generalize a.eval x=vx at w5 ⊢;cases w5 with
    | any=>simp [dq,JY]at hd
    | g8=>simp [dq,JY]at hd
    | ca qy =>
     cases qy with
     | one ub =>
      have nt:JY cy=true/\wk cy=aU cy:=by
       cases ub with
       | rd hr=>cases hr<;>exact ⟨hd,rfl⟩
       | _=>exact ⟨hd,rfl⟩
      rw[nt.2];exact .one (.rd (hcell _ _ ub nt.1))
     | agg cs vs n8 =>
      refine .agg (cs.map aU) vs ⟨by simpa using n8.1,λ k c' v' y6 jg => ?_⟩;rw[List.getElem?_map]at y6;cases ot:cs[k]? with
      | none=>simp [ot]at y6
      | some c0 =>
       simp [ot]at y6;subst y6;exact .rd (hcell c0 v' (n8.2 k c0 v' ot jg) (List.all_eq_true.1 hd _ (zM ot)))
     | fn=>simp [dq,JY]at hd
     | tp=>simp [dq,JY]at hd
 have fk:=hC.pure f _ r hr (safe B S m true) m.w (xs.toList.map a.eval) (by simp [hl]) km;intro K Q hK;unfold Oper.wp;rw[iZ l9 (hC.tn f _ r hr _ _),gk];refine Calls.mono fk λ e w' ⟨u,iw,jm,w5,n8⟩ => ?_
 subst iw;obtain ⟨mf,gb⟩:=grow hm jm;refine hK u ⟨m.ν,m.own,w'⟩ rfl mf gb ?_;have jl : ∀ b,b<w'.heap.size->safe m.w.heap.size (safe B S m true) ⟨λ_ _=>none,BC.emp,w'⟩ false b->safe B S ⟨m.ν,m.own,w'⟩ true b:=λ b hb yg=>by
  rcases yg with ⟨h1,h2⟩|⟨h1,_⟩|⟨h1,_⟩
  ·exact gb.Am true b h2 h1
  ·refine .inr (.inl ⟨Nat.le_trans hm.size h1,λ s t iq hg => ?_⟩)
   obtain ⟨b',l7⟩:=Option.isSome_iff_exists.1 iq;obtain ⟨_,arr,e,hh⟩:=hm.ge ⟨b',l7⟩ hg;have:=(Array.getElem?_eq_some_iff.1 hh).1
   omega
  ·cases h1
 by_cases im:QG r
 ·rw[oY im]
  rcases mD w5 n8 with Ba|⟨cs,vs,rfl,_⟩
  ·rcases Ba with mh|⟨cs,vs,rfl,rfl,jd,hh⟩
   ·have e1:yo r=dK r/\bF r:=by cases mh<;>exact ⟨rfl,im⟩
    rw[show DS.valOf (.val (yo r)) m.own=yo r from rfl,e1.1];exact .ca (.one (.rd (mh.yy jl n8 e1.2)))
   ·unfold B4 at n8
    refine .ca (.agg (cs.map dK) vs ⟨by simpa using jd,λ k c' v' y6 jg => ?_⟩);rw[List.getElem?_map]at y6;cases ot:cs[k]? with
    | none=>simp [ot]at y6
    | some c0 =>
     simp [ot]at y6;subst y6;exact .rd ((hh k c0 v' ot jg).yy jl (VB n8 k c0 ot) (im c0 (zM ot)))
  ·exact im.elim
 ·rw[zP im]
  have hd:=Jo.resolve_left im;rcases mD w5 n8 with Ba|⟨cs,vs,rfl,_⟩
  ·rcases Ba with mh|⟨cs,vs,rfl,rfl,jd,hh⟩
   ·have e1:VJ r=NX r:=by cases mh<;>rfl
    rw[show DS.valOf (.val (VJ r)) m.own=VJ r from rfl,e1];exact .ca (.one (.rd (mh.yz jl n8)))
   ·unfold B4 at n8
    rw[show DS.valOf (.val (VJ (.agg cs))) m.own = .agg (RN cs) from rfl,oX];refine .ca (.agg (cs.map NX) vs ⟨by simpa using jd,λ k c' v' y6 jg => ?_⟩);rw[List.getElem?_map]at y6;cases ot:cs[k]? with
    | none=>simp [ot]at y6
    | some c0 =>
     simp [ot]at y6;subst y6;exact .rd ((hh k c0 v' ot jg).yz jl (VB n8 k c0 ot))
  ·exact hd.elim
end
end Go.e6
namespace Go.e6
open Go.RowKit
section
variable {B:Nat} {S:Nat->Prop} {w0:World} {m:M}
variable {P:Program} {num:Nat->Nat} {o:Oper} {a:Act} {ρ:BH->AV} {C:Cl} {c5:List Nat}
theorem AeI (hm:CY B S w0 m) (hs:D9 B S m ρ a.eval) {mx:Bool} {n9:List BH} (h:CH P num o.op (.mm mx n9)=true) {v r:AV} {l:List AV} (hx:n9.map ρ=v::l) (hv:QN mx v l=some r):EG B S w0 P o a m (.val r):=by
 by_cases hi : ∃ k n,v = .int k n
 ·exact AeH hm hs h hx hv hi
 ·cases l with
  | cons u q =>
   simp only[QN]at hv;exfalso;cases v<;>first|(exact hi ⟨_,_,rfl⟩)|(simp [WK]at hv)
  | nil =>
   simp only[QN,Option.some.injEq]at hv;subst hv;obtain ⟨xs,ts,l9,he⟩:=yW h;cases n9 with
   | nil=>simp at hx
   | cons y yr =>
    simp only[List.map_cons,List.cons.injEq,List.map_eq_nil_iff]at hx;obtain ⟨rfl,rfl⟩:=hx;obtain ⟨xl⟩:=xs;cases xl with
    | nil=>simp [GK]at he
    | cons x xr =>
     simp only[GK,Bool.and_eq_true]at he;cases xr with
     | cons=>simp [GK]at he
     | nil =>
      refine GU hm (u:=a.eval x) ?_ (hs x y he.1);cases mx<;>simp [execOp,l9,resolve,invoke,builtin,Builtin.min_,Builtin.max_]
theorem yD (o:BC) (l:List Nat) (s t:Nat) (b:GE) (h:(o.n6 l).get s t=some b):o.get s t=some b:=by
 induction l with
 | nil=>exact h
 | cons x r ih =>
  unfold BC.get BC.n6 at h;by_cases hs:s=x
  ·simp [hs]at h
  ·simp only[if_neg hs]at h
   exact ih h
theorem Aho {o:BC} {l:List Nat} {s t i j n:Nat} {cs:List AV} (h:(o.n6 l).pd s t i j n=some cs):o.pd s t i j n=some cs:=by
 unfold BC.pd at *;cases hg:(o.n6 l).get s t with
 | none=>simp [hg]at h
 | some b =>
  rw[yD o l s t b hg];simpa [hg] using h
theorem Ae4 {o:BC} {l:List Nat} {v:AV} {es:List (List AV)} (h:G0 (o.n6 l) v=some es):G0 o v=some es:=by
 cases v with
 | da v=>cases v<;>exact h
 | row s t z off len =>
  simp only[G0]at h ⊢;cases hg:(o.n6 l).get s t with
  | none=>simp [hg]at h
  | some b =>
   rw[yD o l s t b hg];simpa [hg] using h
 | _=>exact h
theorem aA {α β:Type} {f g:α->Option β} (Rv : ∀ x y,f x=some y->g x=some y) : ∀ {l:List α} {l':List β},l.mapM f=some l'->l.mapM g=some l'
 | [],l',h=>by simpa using h
 | x::r,l',h=>by
  simp only[List.mapM_cons,Option.bind_eq_bind,Option.pure_def]at h ⊢;cases hx:f x with
  | none=>simp [hx]at h
  | some y =>
   cases hr:r.mapM f with
   | none=>simp [hx,hr]at h
   | some r' =>
    simp [hx,hr]at h;simp [Rv x y hx,aA Rv hr,h]
theorem qS (o:BC) (l:List Nat) (b:Bool) : ∀ (d:Nat) (c c':AV),snap (o.n6 l) b d c=some c'->snap o b d c=some c'
 | 0,c,c',h=>by cases c<;>simp_all [snap]
 | d+1,c,c',h=>by
  cases c<;>first|(simp_all [snap];done)|skip
  rename_i s t z off len;simp only[snap]at h ⊢;cases he:G0 (o.n6 l) (.row s t z off len) with
  | none=>simp [he]at h
  | some es =>
   simp only[he]at h;rw[Ae4 he];simp only[Option.map_eq_some_iff]at h ⊢;obtain ⟨es',h1,h2⟩:=h;exact ⟨es',aA (λ x y hx=>aA (qS o l b d) hx) h1,h2⟩
theorem Pu (o:BC) (l:List Nat) (b:Bool) (c c':AV) (h:EJ (o.n6 l) b c=some c'):EJ o b c=some c':=by
 cases c<;>first|exact qS o l b 6 _ _ h|skip
 simp only[EJ,Option.map_eq_some_iff]at h ⊢;obtain ⟨cs,h1,h2⟩:=h;exact ⟨cs,aA (qS o l b 6) h1,h2⟩
theorem AiU (o:BC) (l:List Nat) (b:Bool) (c c':AV) (h:VT (o.n6 l) b c=some c'):VT o b c=some c':=by
 rcases Classical.em (c = .nil) with rfl|hc
 ·exact h
 ·have e : ∀ o:BC,VT o b c=EJ o b c:=λ o=>by cases c<;>first|rfl|exact (hc rfl).elim
  rw[e]at h ⊢;exact Pu o l b _ _ h
theorem AhA {o:BC} {l:List Nat} {b:Bool} {xs vs:List AV} (h:xs.mapM (VT (o.n6 l) b)=some vs):xs.mapM (VT o b)=some vs:=aA (AiU o l b) h
theorem Ahy {o:BC} {l:List Nat} {b:Bool} {xs vs:List AV} (h:xs.mapM (EJ (o.n6 l) b)=some vs):xs.mapM (EJ o b)=some vs:=aA (Pu o l b) h
theorem Ai4 {own n0:BC} {s t i j:Nat} {vs:List AV} (h:own.ma s t i j vs=some n0):own.put s (n0 s)=n0:=by
 unfold BC.ma at h;cases hg:own.get s t with
 | none=>simp [hg]at h
 | some b =>
  simp only[hg]at h;cases he:b.es[i]? with
  | none=>simp [he]at h
  | some cs =>
   simp only[he]at h;split at h
   ·obtain rfl:=Option.some.inj h
    rw[BC.k7]
   ·cases h
theorem Ae2 (hC:LD P num C) (hm:CY B S w0 m) (hs:D9 B S m ρ a.eval) {Cc:F5} (j9:CH P num o.op Cc=true) {E:DS} (h:e8 C c5 ρ m.own Cc=some E):EG B S w0 P o a m E:=by
 cases Cc with
 | a7 x=>simp only[e8,Option.some.injEq]at h;subst h;exact AeJ hm hs j9
 | cn s z=>simp only[e8,Option.some.injEq]at h;subst h;exact AeP hm j9
 | pick c x y =>
  simp only[e8]at h;split at h
  ·rename_i hc;simp only[Option.some.injEq]at h;subst h;exact vF hm hs j9 hc
  ·rename_i hc;simp only[Option.some.injEq]at h;subst h;exact vF hm hs j9 hc
  ·cases h
 | bin f x y =>
  simp only[e8]at h;split at h
  ·rename_i k n k' n' hx hy
   simp only[Option.map_eq_some_iff]at h;obtain ⟨v,hv,rfl⟩:=h;exact Aej hm hs j9 hx hy hv
  ·cases h
 | oa ne n x y =>
  simp only[e8]at h;split at h
  ·rename_i cs ds hx hy
   split at h
   ·rename_i a b ha hb
    split at h
    ·rename_i hn
     simp only[Option.some.injEq]at h;subst h;exact Aee hm hs j9 hx hy ha hb hn
    ·cases h
   ·cases h
  ·cases h
 | beq ne x y =>
  simp only[e8]at h;split at h
  ·rename_i b b' hx hy
   simp only[Option.some.injEq]at h;subst h;exact Aei hm hs j9 hx hy
  ·cases h
 | un f x =>
  simp only[e8,Option.map_eq_some_iff]at h;obtain ⟨v,hv,rfl⟩:=h;exact AeO hm hs j9 hv
 | conv k x =>
  simp only[e8]at h;split at h
  ·rename_i k' n hx
   simp only[Option.some.injEq]at h;subst h;exact Aet hm hs j9 hx
  ·cases h
 | box s x =>
  simp only[e8]at h;split at h
  ·rename_i cs ik
   simp only[Option.some.injEq]at h;subst h;exact Aek hm hs j9 ik
  ·cases h
 | alloc s z=>simp only[e8,Option.some.injEq]at h;subst h;exact Aef hm j9
 | build z ps =>
  simp only[e8,Option.map_eq_some_iff]at h;obtain ⟨cs,ik,rfl⟩:=h;exact Aem hm hs j9 ik
 | e5 s b9 ps =>
  simp only[e8]at h;split at h
  ·rename_i es jo
   split at h
   ·rename_i hz
    simp only[Option.some.injEq]at h;subst h;exact Ael hm hs j9 jo hz
   ·cases h
  ·cases h
 | a5 x off =>
  simp only[e8]at h;split at h
  ·rename_i s t i j hx
   simp only[Option.some.injEq]at h;subst h;exact Aew hm hs j9 hx
  ·rename_i cs hx
   simp only[Option.some.injEq]at h;subst h;exact Aev hm hs j9 hx
  ·cases h
 | oi x off n agg =>
  simp only[e8]at h;split at h
  ·rename_i cs hx
   split at h
   ·rename_i ds hp
    simp only[Option.map_eq_some_iff]at h;obtain ⟨v,hv,rfl⟩:=h;exact Aex hm hs j9 hx hp hv
   ·cases h
  ·cases h
 | a9 arr b9 x i =>
  simp only[e8]at h;split at h
  ·rename_i k n hi
   split at h
   ·rename_i len s t i' j hx
    split at h
    ·rename_i hn
     simp only[Option.some.injEq]at h;subst h;exact Aey hm hs j9 hi hx hn.1 hn.2
    ·cases h
   ·rename_i len cs hx
    split at h
    ·rename_i hn
     simp only[Option.some.injEq]at h;subst h;exact Aez hm hs j9 hi hx hn.1 hn.2
    ·cases h
   ·rename_i s t z off len hx
    split at h
    ·rename_i hn
     simp only[Option.some.injEq]at h;subst h;exact AeA hm hs j9 hi hx hn.1 hn.2.1 hn.2.2
    ·cases h
   ·rename_i l es hx
    split at h
    ·rename_i h0
     split at h
     ·rename_i cs ik
      split at h
      ·rename_i hz
       simp only[Option.some.injEq]at h;subst h;exact AeB hm hs j9 hi hx h0 ik hz
      ·cases h
     ·cases h
    ·cases h
   ·cases h
  ·cases h
 | ld agg n x =>
  simp only[e8]at h;split at h
  ·rename_i s t i j hx
   split at h
   ·rename_i cs ik
    simp only[Option.map_eq_some_iff]at h;obtain ⟨v,hv,rfl⟩:=h;exact AeD hm hs j9 hx (Aho ik) hv
   ·cases h
  ·rename_i cs hx
   split at h
   ·rename_i ds hp
    simp only[Option.map_eq_some_iff]at h;obtain ⟨v,hv,rfl⟩:=h;exact AeC hm hs j9 hx hp hv
   ·cases h
  ·cases h
 | st n x v =>
  simp only[e8]at h;split at h
  ·rename_i s t i j vs hx ic
   split at h
   ·rename_i hn
    simp only[Option.map_eq_some_iff]at h;obtain ⟨n0,ho,rfl⟩:=h;exact vJ hm hs j9 hx ic hn ho
   ·cases h
  ·cases h
 | mk s b9 bytes zero l c =>
  simp only[e8]at h;split at h
  ·rename_i kl a' kc b' hl hc
   split at h
   ·rename_i hn
    simp only[Option.some.injEq]at h;subst h;exact AeF hm hs j9 hl hc hn.1 hn.2.1 hn.2.2.1 hn.2.2.2.1 hn.2.2.2.2
   ·cases h
  ·cases h
 | ig b9 x lo hi =>
  simp only[e8]at h;have Rb : ∀ (d:Nat) (y:Option BH) (q:Nat),(match y with|none=>some d|some o=>match ρ o with | .int _ n=>if 0<=n/\n<=d then some n.toNat else none|_=>none)=some q -> ∃ n:Int,NT ρ d y=some n/\0<=n/\n<=d/\q=n.toNat:=λ d y q hq=>by
   cases y with
   | none=>simp only[Option.some.injEq]at hq;subst hq;exact ⟨d,rfl,by omega,by omega,by simp⟩
   | some y =>
    simp only at hq;cases hy:ρ y with
    | int k n =>
     simp only[hy]at hq;split at hq
     ·rename_i hn
      simp only[Option.some.injEq]at hq;subst hq;exact ⟨n,by simp [NT,hy],hn.1,hn.2,rfl⟩
     ·cases hq
    | _=>simp [hy]at hq
  have Dr : ∀ (y:Option BH) (q:Nat),(match y with|none=>some 0|some o=>match ρ o with | .int _ n=>if 0<=n then some n.toNat else none|_=>none)=some q -> ∃ n:Int,NT ρ 0 y=some n/\0<=n/\q=n.toNat:=λ y q hq=>by
   cases y with
   | none=>simp only[Option.some.injEq]at hq;subst hq;exact ⟨0,rfl,by omega,by simp⟩
   | some y =>
    simp only at hq;cases hy:ρ y with
    | int k n =>
     simp only[hy]at hq;split at hq
     ·rename_i hn
      simp only[Option.some.injEq]at hq;subst hq;exact ⟨n,by simp [NT,hy],hn,rfl⟩
     ·cases hq
    | _=>simp [hy]at hq
  have Du : ∀ (y:Option BH) (q:Nat),(match y with|none=>some 0|some o=>match ρ o with | .int _ n=>if n=0 then some 0 else none|_=>none)=some q->NT ρ 0 y=some 0:=λ y q hq=>by
   cases y with
   | none=>rfl
   | some y =>
    simp only at hq;cases hy:ρ y with
    | int k n =>
     simp only[hy]at hq;split at hq
     ·rename_i hn
      subst hn;simp [NT,hy]
     ·cases hq
    | _=>simp [hy]at hq
  split at h
  ·rename_i l es hx
   split at h
   ·rename_i q1 q2 h1 h2
    split at h
    ·rename_i hq
     simp only[Option.some.injEq]at h;subst h;obtain ⟨n1,b1,c1,rfl⟩:=Dr _ _ h1;obtain ⟨n2,b2,c2,c3,rfl⟩:=Rb _ _ _ h2;exact AeN hm hs j9 hx b1 b2 c1 (by omega) c3 hq.2
    ·cases h
   ·cases h
  ·rename_i hx
   split at h
   ·rename_i q1 q2 h1 h2
    simp only[Option.some.injEq]at h;subst h;exact AeL hm hs j9 hx (Du _ _ h1) (Du _ _ h2)
   ·cases h
  ·rename_i s t z off len hx
   split at h
   ·rename_i q1 q2 h1 h2
    split at h
    ·rename_i hq
     simp only[Option.some.injEq]at h;subst h;obtain ⟨n1,b1,c1,rfl⟩:=Dr _ _ h1;obtain ⟨n2,b2,c2,c3,rfl⟩:=Rb _ _ _ h2;exact AeM hm hs j9 hx b1 b2 c1 (by omega) c3 hq.2
    ·cases h
   ·cases h
  ·cases h
 | ext x i =>
  simp only[e8]at h;split at h
  ·rename_i vs hx
   simp only[Option.map_eq_some_iff]at h;obtain ⟨v,hv,rfl⟩:=h;exact Aeu hm hs j9 hx hv
  ·cases h
 | len x =>
  simp only[e8]at h;split at h
  ·rename_i n hn
   simp only[Option.some.injEq]at h;subst h;exact AeE hm hs j9 hn
  ·cases h
 | mm mx xs =>
  simp only[e8]at h;split at h
  ·cases h
  ·rename_i v r hx
   simp only[Option.map_eq_some_iff]at h;obtain ⟨q,hq,rfl⟩:=h;exact AeI hm hs j9 hx hq
 | app s b9 bytes x y =>
  simp only[e8]at h;split at h
  ·rename_i ys yj
   split at h
   ·rename_i hz
    split at h
    ·rename_i s' t z len hx
     split at h
     ·rename_i b hb
      split at h
      ·rename_i hn
       obtain ⟨n1,rfl,n3,n4,n5⟩:=hn;simp only[Option.some.injEq]at h;subst h;exact Aeh hm hs j9 yj hz hx hb n1 n3 n4 n5
      ·cases h
     ·cases h
    ·rename_i hx
     split at h
     ·rename_i hn
      simp only[Option.some.injEq]at h;subst h;exact Aeg hm hs j9 yj hz hx hn.1 hn.2
     ·cases h
    ·cases h
   ·cases h
  ·cases h
 | call f xs =>
  simp only[e8]at h;split at h
  ·rename_i vs ic
   simp only[Option.map_eq_some_iff]at h;obtain ⟨r,hr,rfl⟩:=h;exact Aen hC hm hs j9 (Ahy ic) hr
  ·cases h
 | g7 f xs =>
  simp only[e8,Option.map_eq_some_iff]at h;obtain ⟨r,hr,rfl⟩:=h;exact vD hC hm hs j9 hr
 | rp ne x =>
  simp only[e8]at h;split at h
  ·rename_i hx
   simp only[Option.some.injEq]at h;subst h;exact gO hm hs j9 (b:=true) λ v hv=>by rw[hx]at hv;exact ⟨none,0,0,ZS hv,rfl⟩
  ·rename_i b hx
   simp only[Option.some.injEq]at h;subst h;exact gO hm hs j9 (b:=b) λ v hv=>by
    rw[hx]at hv;obtain ⟨ad,c,h1,h2⟩:=uS hv;exact ⟨ad,0,c,h1,h2⟩
  ·rename_i hx
   simp only[Option.some.injEq]at h;subst h;exact gO hm hs j9 (b:=false) λ v hv=>by rw[hx]at hv;exact AdT hv
  ·rename_i hx
   simp only[Option.some.injEq]at h;subst h;exact gO hm hs j9 (b:=false) λ v hv=>by rw[hx]at hv;exact AdS hv
  ·cases h
 | bad =>
  have h:(none:Option DS)=some E:=h;cases h
 | cw s f xs =>
  simp only[e8,Option.map_eq_some_iff]at h;obtain ⟨p,hp,rfl⟩:=h;exact vD hC hm hs (Ag7 j9) (fY.1 hp m.own rfl)
 | gv tb x =>
  simp only[e8]at h;split at h
  ·rename_i k n hx
   split at h
   ·rename_i h0
    split at h
    ·rename_i v hv
     simp only[Option.some.injEq]at h;subst h;exact AeK hm hs j9 hx h0 hv
    ·cases h
   ·cases h
  ·cases h
 | pe p f xs =>
  simp only[e8,Option.map_eq_some_iff]at h;obtain ⟨cs,ik,rfl⟩:=h;rw[hC.num];exact AeG hm hs j9 ik
 | m6 f xs =>
  simp only[e8]at h;split at h
  ·rename_i hq
   split at h
   ·rename_i r hr
    split at h
    ·rename_i im
     simp only[Option.some.injEq]at h;subst h;exact Aeq hC hm hs j9 hq hr im
    ·cases h
   ·cases h
  ·cases h
 | o8 s f xs =>
  simp only[e8]at h;split at h
  ·rename_i vs ic
   simp only[Option.map_eq_some_iff]at h;obtain ⟨⟨z,es⟩,hr,rfl⟩:=h;exact Aer hC hm hs j9 (AhA ic) hr
  ·cases h
 | nr s n x v =>
  simp only[e8]at h;split at h
  ·rename_i s' t i j vs hx ic
   split at h
   ·rename_i hn
    obtain ⟨rfl,hn⟩:=hn;simp only[Option.map_eq_some_iff]at h;obtain ⟨n0,ho,rfl⟩:=h;have:=vJ hm hs (Ahj j9) hx ic hn ho
    intro K Q hK;refine this K Q λ u m' h1 h2 h3 h4=>hK u m' ?_ h2 h3 h4
    rw[h1];exact (Ai4 ho).symm
   ·cases h
  ·cases h
 | o3 x xs =>
  simp only[e8]at h;split at h
  ·rename_i p f g cs hx
   split at h
   ·rename_i hg
    rw[hC.num]at hg;subst hg;split at h
    ·split at h
     ·rename_i vs ic
      simp only[Option.map_eq_some_iff]at h;obtain ⟨r,hr,rfl⟩:=h;exact Aep hC hm hs j9 hx ic hr
     ·cases h
    ·simp only[Option.map_eq_some_iff]at h
     obtain ⟨r,hr,rfl⟩:=h;exact Aes hC hm hs j9 hx hr
    ·split at h
     ·rename_i vs ic
      simp only[Option.map_eq_some_iff]at h;obtain ⟨r,hr,rfl⟩:=h;exact Aeo hC hm hs j9 hx ic hr
     ·cases h
   ·cases h
  ·cases h
end
end Go.e6

namespace Go.e6
open Go.RowKit
def GX (T:Nat->AV):BH->AV
 | .t n=>T n
 | .c v=>v
def PK (T:Nat->AV) (d:Option Nat) (v:AV):Nat->AV:=λ j=>if d=some j then v else T j
def RC (T:Nat->AV):Option (Nat × Bool)->Option Bool
 | none=>some true
 | some (g,want)=>match T g with
  | .bool b=>some (b == want)
  | .g8 []=>some false
  | _=>none
theorem wB (st:St):st.ev=GX (g6 st.tm):=by funext x;cases x<;>rfl
theorem Agv (st:St) (g:Option (Nat × Bool)):IR st g=RC (g6 st.tm) g:=rfl
theorem vM (st:St) (d:Option Nat) (v:AV):g6 (st.dst d v).tm=PK (g6 st.tm) d v:=by
 cases d with
 | none=>funext j;simp [St.dst,PK]
 | some d =>
  funext j
  simp only[St.dst,PK,eN];by_cases h:j=d
  ·simp [h]
  ·simp [h,Ne.symm h]
theorem Adj (st:St) (d:Option Nat) (E:DS):g6 (st.app d E).tm=PK (g6 st.tm) d (E.valOf st.own):=by
 cases E<;>simp only[St.app,DS.valOf]<;>exact vM st d _
theorem vN (st:St) (d:Option Nat) (v:AV):(st.dst d v).own=st.own:=by cases d<;>rfl
theorem Adi (st:St) (d:Option Nat) (E:DS):(st.app d E).own=E.ah st.own:=by
 cases E with
 | val v=>simp only[St.app,DS.ah];exact vN st d v
 | _=>rfl
section
variable {B:Nat} {S:Nat->Prop} {w0:World} {m0:M} {N:Nat}
variable {P:Program} {num:Nat->Nat} {C:Cl} {Q:Exit->Act->World->Prop}
structure IX (B:Nat) (S:Nat->Prop) (w0:World) (m0:M) (N:Nat) (T:Nat->AV) (m:M) (a:Act):Prop where
 mem:CY B S w0 m
 ext:FP B S m0 m
 tm : ∀ i,CV B S m (T i) (a.tmps.getD i undef)
 size:a.tmps.size=N
 defers:a.defers=[]
theorem IX.put {T:Nat->AV} {m m':M} {a:Act} (h:IX B S w0 m0 N T m a) (d:Option Nat) (hd : ∀ k,d=some k->k<N) {v:AV} {u:Value} (hm:CY B S w0 m') (he:FP B S m m') (hc:CV B S m' v u):IX B S w0 m0 N (PK T d v) m' (a.put d u):=by
 refine ⟨hm,h.ext.trans he,λ i => ?_,?_,?_⟩
 ·cases d with
  | none=>simpa [PK,Act.put] using he.cv (h.tm i)
  | some k =>
   have hk:k<a.tmps.size:=by rw[h.size];exact hd k rfl
   by_cases Ey:i=k
   ·subst Ey
    simp only[PK,if_true,Act.put];simpa [Array.getD,hk] using hc
   ·have m7 : ¬ (some k=some i):=λ e=>Ey (by simpa using e.symm)
    simp only[PK,if_neg m7,Act.put];have:(a.tmps.setIfInBounds k u).getD i undef=a.tmps.getD i undef:=by
     simp [Array.getElem?_setIfInBounds_ne (Ne.symm Ey)]
    rw[this];exact he.cv (h.tm i)
 ·cases d<;>simp [Act.put,h.size]
 ·cases d<;>simpa [Act.put] using h.defers
theorem IX.says {T:Nat->AV} {m:M} {a:Act} (h:IX B S w0 m0 N T m a):D9 B S m (GX T) a.eval:=AiD (λ_=>rfl) (λ_=>rfl) h.tm
theorem Ajl {T:Nat->AV} {m:M} {a:Act} (h:IX B S w0 m0 N T m a) {ops:Array Oper} {o:Oper} {g':Option (Nat × Bool)} (hg:dO ops o.guard g'=true) {g:Bool} (rf:RC T g'=some g):Region.wanted o (yielded ops a.tmps)=g:=by
 unfold Region.wanted;cases Kb:o.guard with
 | none =>
  cases g' with
  | none=>simp [RC]at rf;simp [rf]
  | some _=>simp [dO,Kb]at hg
 | some jw =>
  obtain ⟨j,want⟩:=jw;cases g' with
  | none=>simp [dO,Kb]at hg
  | some tw =>
   obtain ⟨t,Uj⟩:=tw;simp only[dO,Kb,Bool.and_eq_true,beq_iff_eq]at hg;obtain ⟨rfl,hg⟩:=hg;split at hg
   ·rename_i oj Hc
    have Ji:oj.dst=some t:=by simpa using hg
    have w5:=h.tm t;simp only[RC]at rf;unfold yielded;simp only[Hc,Option.bind_some,Ji];split at rf
    ·rename_i b hb
     rw[hb]at w5;have hv:=YD w5;have o0:a.tmps[t]? = some (.bool b):=by
      cases ht:a.tmps[t]? with
      | none=>simp [ht,undef]at hv
      | some x=>simp [ht]at hv;rw[hv]
     simp only[o0];simp at rf;rw[<-rf];cases b<;>cases want<;>rfl
    ·rename_i hb
     rw[hb]at w5;obtain ⟨vs,hv,hl,_⟩:=mE w5;have:vs=[]:=List.eq_nil_of_length_eq_zero (by simpa using hl.symm)
     subst this;simp at rf;subst rf;cases ht:a.tmps[t]? with
     | none=>rfl
     | some x =>
      simp [ht]at hv;subst hv;rfl
    ·cases rf
   ·cases hg
theorem Pn (hC:LD P num C) {ops:Array Oper} {i:Nat} {o:Oper} {ai:AI} (hi:ops[i]? = some o) (j9:iO P num N ops o ai=true) {T:Nat->AV} {m:M} {a:Act} (hf:IX B S w0 m0 N T m a) {g:Bool} (hg:RC T ai.guard=some g) {E:DS}
  (hE:g=true->e8 C ai.c5 (GX T) m.own ai.op=some E) {K:Act->World->Prop} (hK : ∀ m' a',m'.own=(if g then E.ah m.own else m.own)->IX B S w0 m0 N (PK T ai.dst (if g then E.valOf m.own else .g8 [])) m' a'->K a' m'.w):wpOp P ops Q i K a m.w:=by
 simp only[iO,Bool.and_eq_true,beq_iff_eq]at j9;obtain ⟨⟨⟨h1,h2⟩,h3⟩,h4⟩:=j9;have hd : ∀ k,o.dst=some k->k<N:=λ k hk=>by
  rw[h1]at hk;rw[hk]at h2;simpa using h2
 unfold wpOp;simp only[hi,Ajl hf h3 hg];cases g with
 | true =>
  simp only[if_true];refine .inl (Ae2 hC hf.mem hf.says h4 (hE rfl) K Q λ u m' l6 mf gb w5 => ?_);refine hK m' _ (by simpa using l6) ?_;rw[<-h1];exact hf.put o.dst hd mf gb w5
 | false =>
  simp only[Bool.false_eq_true,if_false];refine hK m _ (by simp) ?_;rw[<-h1];exact hf.put o.dst hd hf.mem (FP.refl m) zX
theorem Qd {o:AI} {st k9:St} (h:EL C o st=some k9) : ∃ g E,RC (g6 st.tm) o.guard=some g/\(g=true->e8 C o.c5 (GX (g6 st.tm)) st.own o.op=some E)/\g6 k9.tm=PK (g6 st.tm) o.dst (if g then E.valOf st.own else .g8 [])/\k9.own=(if g then E.ah st.own else st.own):=by
 unfold EL at h;rw[Agv]at h;cases hg:RC (g6 st.tm) o.guard with
 | none=>simp [hg]at h
 | some g =>
  cases g with
  | true =>
   simp only[hg,Option.map_eq_some_iff]at h;obtain ⟨E,hE,rfl⟩:=h;rw[wB]at hE;exact ⟨true,E,rfl,λ_=>hE,Adj st o.dst E,Adi st o.dst E⟩
  | false =>
   simp only[hg,Option.some.injEq]at h;subst h;exact ⟨false,.val .any,rfl,λ h=>(by cases h),vM st o.dst _,vN st o.dst _⟩
theorem dP {ops:Array Oper} : ∀ {os:List Oper} {l:List AI},WM P num N ops os l=true->os.length=l.length /\ ∀ (i:Nat) (o:Oper) (x:AI),os[i]? = some o->l[i]? = some x->iO P num N ops o x=true
 | [],[],_=>⟨rfl,λ i o x h=>by simp at h⟩
 | o::r,x::l,h=>by
  simp only[WM,Bool.and_eq_true]at h;obtain ⟨h1,h2⟩:=dP h.2;refine ⟨by simp [h1],λ i o' x' ho hx => ?_⟩;cases i with
  | zero=>simp at ho hx;subst ho hx;exact h.1
  | succ i=>exact h2 i o' x' (by simpa using ho) (by simpa using hx)
 | [],_::_,h=>by simp [WM]at h
 | _::_,[],h=>by simp [WM]at h
theorem Po (hC:LD P num C) {ops:Array Oper} {l:List AI} (j9:WM P num N ops ops.toList l=true) : ∀ (n k:Nat) (st k9:St) (m:M) (a:Act),n+k=ops.size->FB C (l.drop k) st=some k9->m.own=st.own->IX B S w0 m0 N (g6 st.tm) m a ->
  (∀ m' a',m'.own=k9.own->IX B S w0 m0 N (g6 k9.tm) m' a'->Q .normal a' m'.w)->wpOps P ops Q (List.range' k n) a m.w
 | 0,k,st,k9,m,a,hk,hs,l6,hf,hQ=>by
  have hl:=(dP j9).1;simp at hl;rw[List.drop_eq_nil_of_le (by omega)]at hs;simp only[FB,Option.some.injEq]at hs;subst hs;simpa [wpOps] using hQ m a l6 hf
 | n+1,k,st,k9,m,a,hk,hs,l6,hf,hQ=>by
  obtain ⟨hl,hg⟩:=dP j9;simp at hl;have Bh:k<l.length:=by omega
  have Sd:k<ops.size:=by omega
  rw[List.drop_eq_getElem_cons Bh]at hs;simp only[FB]at hs;cases m9:EL C l[k] st with
  | none=>simp [m9]at hs
  | some B8 =>
   simp only[m9]at hs;obtain ⟨g,E,h1,h2,h3,h4⟩:=Qd m9;rw[List.range'_succ,wpOps_cons];have hoi:ops[k]? = some ops[k]:=Array.getElem?_eq_getElem Sd;refine Pn hC hoi (hg k ops[k] l[k] (by simp [Sd]) (zE Bh)) hf h1 (λ eu=>by rw[l6];exact h2 eu) λ m' a' kr mw => ?_
   refine Po hC j9 n (k+1) B8 k9 m' a' (by omega) hs ?_ ?_ hQ
   ·rw[kr,l6,h4]
   ·rw[l6]at mw
    rw[h3];exact mw
end
end Go.e6

namespace Go.e6
open Go.RowKit
section
variable {T T':Nat->AV} {C:Cl} {c5:List Nat} {own:BC}
theorem FY {x:BH} (h : ∀ t∈EP x,T t=T' t):GX T x=GX T' x:=by
 cases x with
 | t n=>exact h n (by simp [EP])
 | c v=>rfl
theorem YX {xs:List BH} (h : ∀ t∈xs.flatMap EP,T t=T' t):xs.map (GX T)=xs.map (GX T') :=
 List.map_congr_left λ x hx=>FY λ t ht=>h t (List.mem_flatMap.2 ⟨x,hx,ht⟩)
theorem Pb {x:Option BH} (h : ∀ t∈pS x,T t=T' t) {y:BH} (hy:x=some y):GX T y=GX T' y:=by
 subst hy;exact FY h
theorem AeX {op:F5} (h : ∀ t∈N6 op,T t=T' t):e8 C c5 (GX T) own op=e8 C c5 (GX T') own op:=by
 cases op with
 | build z ps =>
  simp only[e8];congr 2;refine List.map_congr_left λ p hp => ?_
  rw[FY (x:=p.2.2) λ t ht=>h t (by simp only[N6];exact List.mem_flatMap.2 ⟨p,hp,ht⟩)]
 | e5 s b9 ps =>
  have hm:ps.mapM (λ x=>cellsOf (GX T x))=ps.mapM (λ x=>cellsOf (GX T' x)):=by
   have e : ∀ l:List BH,(∀ x∈l,GX T x=GX T' x)->l.mapM (λ x=>cellsOf (GX T x))=l.mapM (λ x=>cellsOf (GX T' x)):=by
    intro l;induction l with
    | nil=>intro _;rfl
    | cons x r ih=>intro hl;simp only[List.mapM_cons];rw[hl x (by simp),ih λ y hy=>hl y (by simp [hy])]
   exact e ps λ x hx=>FY λ t ht=>h t (by simp only[N6];exact List.mem_flatMap.2 ⟨x,hx,ht⟩)
  simp only[e8,hm]
 | mm mx xs=>simp only[e8];rw[YX (xs:=xs) h]
 | call f xs=>simp only[e8];rw[YX (xs:=xs) h]
 | g7 f xs=>simp only[e8];rw[YX (xs:=xs) h]
 | rp ne x=>simp only[e8];rw[FY (x:=x) h]
 | bad=>rfl
 | gv tb x=>simp only[e8];rw[FY (x:=x) h]
 | pe p f xs =>
  have e : ∀ l:List BH,(∀ x∈l,GX T x=GX T' x)->l.mapM (λ x=>KO (GX T x))=l.mapM (λ x=>KO (GX T' x)):=by
   intro l;induction l with
   | nil=>intro _;rfl
   | cons x r ih=>intro hl;simp only[List.mapM_cons];rw[hl x (by simp),ih λ y hy=>hl y (by simp [hy])]
  simp only[e8];rw[e xs λ x hx=>FY λ t ht=>h t (by simp only[N6];exact List.mem_flatMap.2 ⟨x,hx,ht⟩)]
 | m6 f xs=>simp only[e8];rw[YX (xs:=xs) h]
 | o8 s f xs=>simp only[e8];rw[YX (xs:=xs) h]
 | cw s f xs=>simp only[e8];rw[YX (xs:=xs) h]
 | nr s n x v =>
  simp only[N6,List.mem_append]at h;simp only[e8];rw[FY (x:=x) λ t ht=>h t (.inl ht),FY (x:=v) λ t ht=>h t (.inr ht)]
 | o3 x xs =>
  simp only[N6,List.mem_append]at h;simp only[e8];rw[FY (x:=x) λ t ht=>h t (.inl ht),YX (xs:=xs) λ t ht=>h t (.inr ht)]
 | ig b9 x lo hi =>
  simp only[N6,List.mem_append]at h;have hx:GX T x=GX T' x:=FY λ t ht=>h t (.inl (.inl ht))
  have nu : ∀ y,lo=some y->GX T y=GX T' y:=λ y hy=>Pb (λ t ht=>h t (.inl (.inr ht))) hy
  have Gy : ∀ y,hi=some y->GX T y=GX T' y:=λ y hy=>Pb (λ t ht=>h t (.inr ht)) hy
  simp only[e8,hx];cases lo with
  | none=>cases hi with
   | none=>rfl
   | some y=>simp only[Gy y rfl]
  | some z=>cases hi with
   | none=>simp only[nu z rfl]
   | some y=>simp only[nu z rfl,Gy y rfl]
 | cn=>rfl
 | alloc=>rfl
 | a7 x=>simp only[e8];rw[FY (x:=x) h]
 | un f x=>simp only[e8];rw[FY (x:=x) h]
 | conv k x=>simp only[e8];rw[FY (x:=x) h]
 | box s x=>simp only[e8];rw[FY (x:=x) h]
 | a5 x off=>simp only[e8];rw[FY (x:=x) h]
 | oi x off n agg=>simp only[e8];rw[FY (x:=x) h]
 | ld agg n x=>simp only[e8];rw[FY (x:=x) h]
 | ext x i=>simp only[e8];rw[FY (x:=x) h]
 | len x=>simp only[e8];rw[FY (x:=x) h]
 | pick c x y =>
  simp only[N6,List.mem_append]at h;simp only[e8];rw[FY (x:=c) λ t ht=>h t (.inl (.inl ht)),FY (x:=x) λ t ht=>h t (.inl (.inr ht)),FY (x:=y) λ t ht=>h t (.inr ht)]
 | bin f x y =>
  simp only[N6,List.mem_append]at h;simp only[e8];rw[FY (x:=x) λ t ht=>h t (.inl ht),FY (x:=y) λ t ht=>h t (.inr ht)]
 | oa ne n x y =>
  simp only[N6,List.mem_append]at h;simp only[e8];rw[FY (x:=x) λ t ht=>h t (.inl ht),FY (x:=y) λ t ht=>h t (.inr ht)]
 | beq ne x y =>
  simp only[N6,List.mem_append]at h;simp only[e8];rw[FY (x:=x) λ t ht=>h t (.inl ht),FY (x:=y) λ t ht=>h t (.inr ht)]
 | a9 arr b9 x i =>
  simp only[N6,List.mem_append]at h;simp only[e8];rw[FY (x:=x) λ t ht=>h t (.inl ht),FY (x:=i) λ t ht=>h t (.inr ht)]
 | st n x v =>
  simp only[N6,List.mem_append]at h;simp only[e8];rw[FY (x:=x) λ t ht=>h t (.inl ht),FY (x:=v) λ t ht=>h t (.inr ht)]
 | mk s b9 bytes z l c =>
  simp only[N6,List.mem_append]at h;simp only[e8];rw[FY (x:=l) λ t ht=>h t (.inl ht),FY (x:=c) λ t ht=>h t (.inr ht)]
 | app s b9 bytes x y =>
  simp only[N6,List.mem_append]at h;simp only[e8];rw[FY (x:=x) λ t ht=>h t (.inl ht),FY (x:=y) λ t ht=>h t (.inr ht)]
theorem yN (o:BC) (l:List Nat) (s:Nat):o.n6 l s=if s∈l then ⟨0,λ_=>none⟩ else o s:=by
 induction l with
 | nil=>simp [BC.n6]
 | cons x r ih =>
  simp only[BC.n6,List.mem_cons];by_cases h:s=x
  ·simp [h]
  ·rw[if_neg h,ih]
   simp [h]
theorem AgT {o o':BC} {l:List Nat} (h : ∀ s,s ∉ l->o s=o' s):o.n6 l=o'.n6 l:=by
 funext s
 rw[yN,yN];split
 ·rfl
 ·rename_i hs;exact h s hs
end
section
variable {ops:Array Oper}
def inner (acc:Array Nat) (o:Oper):Nat:=o.after.foldl (λ s e=>if Region.binds .any e then s ||| 2^e.on ||| acc.getD e.on 0 else s) 0
theorem AgV (acc:Array Nat) (o:Oper) (j:Nat) (h:(inner acc o).testBit j=true) : ∃ e∈o.after,Region.binds .any e=true/\(e.on=j\/(acc.getD e.on 0).testBit j=true):=by
 unfold inner at h;rw[<-Array.foldl_toList]at h;have key : ∀ (l:List Edge) (s:Nat),(l.foldl (λ s e=>if Region.binds .any e then s ||| 2^e.on ||| acc.getD e.on 0 else s) s).testBit j=true->s.testBit j=true \/ ∃ e∈l,Region.binds .any e=true/\(e.on=j\/(acc.getD e.on 0).testBit j=true):=by
  intro l;induction l with
  | nil=>intro s hs;exact .inl hs
  | cons e r ih =>
   intro s hs;simp only[List.foldl_cons]at hs;rcases ih _ hs with h1|⟨e',iw,h2⟩
   ·by_cases hb:Region.binds .any e=true
    ·simp only[hb,if_true,Nat.testBit_or,Bool.or_eq_true,Nat.testBit_two_pow,decide_eq_true_eq]at h1
     rcases h1 with (h1|h1)|h1
     ·exact .inl h1
     ·exact .inr ⟨e,by simp,hb,.inl h1⟩
     ·exact .inr ⟨e,by simp,hb,.inr h1⟩
    ·simp only[hb,Bool.false_eq_true,if_false]at h1
     exact .inl h1
   ·exact .inr ⟨e',by simp [iw],h2⟩
 rcases key _ _ h with h|⟨e,he,h⟩
 ·simp at h
 ·exact ⟨e,by simpa using he,h⟩
theorem Adl (i j:Nat) (h:((Region.before ops).getD i 0).testBit j=true) : ∃ o,ops[i]? = some o /\ ∃ e∈o.after,Region.binds .any e=true/\(e.on=j\/(e.on<i/\((Region.before ops).getD e.on 0).testBit j=true)):=by
 have key : ∀ (rest:List Oper) (done:List Oper) (acc:Array Nat),acc.size=done.length ->
   (∀ i j,(acc.getD i 0).testBit j=true -> ∃ o,done[i]? = some o /\ ∃ e∈o.after,Region.binds .any e=true/\(e.on=j\/(e.on<i/\(acc.getD e.on 0).testBit j=true))) ->
   ∀ i j,((rest.foldl (λ acc o=>acc.push (inner acc o)) acc).getD i 0).testBit j=true -> ∃ o,(done++rest)[i]? = some o /\ ∃ e∈o.after,Region.binds .any e=true/\(e.on=j\/(e.on<i/\((rest.foldl (λ acc o=>acc.push (inner acc o)) acc).getD e.on 0).testBit j=true)):=by
  intro rest;induction rest with
  | nil=>intro done acc hs hinv i j hj;simpa using hinv i j hj
  | cons o r ih =>
   intro done acc hs hinv i j hj;simp only[List.foldl_cons]at hj ⊢;have:=ih (done++[o]) (acc.push (inner acc o)) (by simp [hs]) (λ i j zt => ?_) i j hj
   ·simpa using this
   ·have o0 : ∀ k,k<acc.size->(acc.push (inner acc o)).getD k 0=acc.getD k 0:=λ k hk=>by
     simp [Array.getD,hk,Nat.lt_succ_of_lt hk,Array.getElem_push_lt hk]
    by_cases hi:i<acc.size
    ·rw[o0 i hi]at zt
     obtain ⟨o',xx,e,he,hb,ew⟩:=hinv i j zt;refine ⟨o',by rw[List.getElem?_append_left (by omega)];exact xx,e,he,hb,ew.imp id λ⟨h1,h2⟩=>⟨h1,by rw[o0 e.on (by omega)];exact h2⟩⟩
    ·have Jr:i=acc.size:=by
      rcases Nat.lt_or_ge i (acc.push (inner acc o)).size with h1|h1
      ·simp at h1;omega
      ·have:(acc.push (inner acc o)).getD i 0=0:=by simp [Array.getD];intro h2;simp at h1;omega
       rw[this]at zt;simp at zt
     subst Jr;have lk:(acc.push (inner acc o)).getD acc.size 0=inner acc o:=by simp [Array.getD]
     rw[lk]at zt;obtain ⟨e,he,hb,ew⟩:=AgV acc o j zt;refine ⟨o,by rw[hs];simp,e,he,hb,ew.imp id λ h2 => ?_⟩;have l8:e.on<acc.size:=by
      rcases Nat.lt_or_ge e.on acc.size with h3|h3
      ·exact h3
      ·have:acc.getD e.on 0=0:=by simp [Array.getD];omega
       rw[this]at h2;simp at h2
     exact ⟨l8,by rw[o0 e.on l8];exact h2⟩
 have hb:Region.before ops=ops.toList.foldl (λ acc o=>acc.push (inner acc o)) #[]:=by
  unfold Region.before;rw[<-Array.foldl_toList];rfl
 rw[hb]at h ⊢;have:=key ops.toList [] #[] rfl (λ i j zt=>by simp at zt) i j h
 simpa using this
def ZJ (ops:Array Oper) (X:Nat->Bool):Prop := ∀ j o,X j=true->ops[j]? = some o -> ∀ e∈o.after,Region.binds .any e=true->X e.on=true
theorem Qx {X:Nat->Bool} (hX:ZJ ops X) : ∀ (i:Nat),(∀ o,ops[i]? = some o -> ∀ e∈o.after,Region.binds .any e=true->X e.on=true) -> ∀ j,((Region.before ops).getD i 0).testBit j=true->X j=true:=by
 intro i;induction i using Nat.strongRecOn with
 | ind i ih =>
  intro hi j hj;obtain ⟨o,ho,e,he,hb,ew⟩:=Adl i j hj;have hx:=hi o ho e he hb;rcases ew with h|⟨l8,h⟩
  ·rw[<-h];exact hx
  ·exact ih e.on l8 (λ o' xx e' iw l7=>hX e.on o' hx xx e' iw l7) j h
theorem AhX {X:Nat->Bool} (hX:ZJ ops X) {i j:Nat} (hi : ∀ o,ops[i]? = some o -> ∀ e∈o.after,Region.binds .any e=true->X e.on=true) (l8:j<i) (h:OW (Region.before ops) i j=true):X j=true:=by
 unfold OW at h;rw[Nat.max_eq_left (by omega),Nat.min_eq_right (by omega)]at h;exact Qx hX i hi j h
theorem Me {X:Nat->Bool} (hX:ZJ ops X) {i j:Nat} (hj:X j=true) (l8:i<j) (h:OW (Region.before ops) i j=true):X i=true:=by
 unfold OW at h;rw[Nat.max_eq_right (by omega),Nat.min_eq_left (by omega)]at h;exact Qx hX j (λ o ho e he hb=>hX j o hj ho e he hb) i h
end
section
variable {C:Cl}
abbrev D:=(Nat->AV) × BC
structure F7 where
 d:Option Nat
 g:Bool
 E:DS
 v:AV
def F7.own (r:F7) (o:BC):BC:=if r.g then r.E.ah o else o
def F7.act (r:F7) (x:D):D:=(PK x.1 r.d r.v,r.own x.2)
structure ZK (C:Cl) (x:AI) (r:F7) (s s':St):Prop where
 d:r.d=x.dst
 g:RC (g6 s.tm) x.guard=some r.g
 E:r.g=true->e8 C x.c5 (GX (g6 s.tm)) s.own x.op=some r.E
 v:r.v=(if r.g then r.E.valOf s.own else .g8 [])
 act:(g6 s'.tm,s'.own)=r.act (g6 s.tm,s.own)
theorem trace : ∀ {l:List AI} {st k9:St},FB C l st=some k9 -> ∃ (σ:Nat->St) (rs:List F7),σ 0=st/\σ l.length=k9/\rs.length=l.length /\ ∀ (k:Nat) (x:AI) (r:F7),l[k]? = some x->rs[k]? = some r->ZK C x r (σ k) (σ (k+1))
 | [],st,k9,h=>by
  simp only[FB,Option.some.injEq]at h;subst h;exact ⟨λ_=>st,[],rfl,rfl,rfl,λ k x r hx=>by simp at hx⟩
 | o::q,st,k9,h=>by
  simp only[FB]at h;cases hs:EL C o st with
  | none=>simp [hs]at h
  | some B8 =>
   simp only[hs]at h;obtain ⟨σ,rs,h0,h1,hl,h2⟩:=trace h;obtain ⟨g,E,e1,e2,e3,e4⟩:=Qd hs;refine ⟨λ k=>match k with|0=>st|k+1=>σ k,⟨o.dst,g,E,if g then E.valOf st.own else .g8 []⟩::rs,rfl,h1,by simp [hl],λ k x r hx hr => ?_⟩;cases k with
   | zero =>
    simp at hx hr;subst hx hr;refine ⟨rfl,e1,e2,rfl,?_⟩;show (g6 (σ 0).tm,(σ 0).own)=_;rw[h0,e3,e4];rfl
   | succ k=>exact h2 k x r (by simpa using hx) (by simpa using hr)
def FX (X:Nat->Bool):List F7->Nat->D->D
 | [],_,x=>x
 | r::rs,k,x=>FX X rs (k+1) (if X k then r.act x else x)
theorem nZ (X:Nat->Bool) : ∀ (l l':List F7) (k:Nat) (x:D),FX X (l++l') k x=FX X l' (k+l.length) (FX X l k x)
 | [],l',k,x=>by simp [FX]
 | r::rs,l',k,x=>by
  simp only[List.cons_append,FX,List.length_cons];rw[nZ X rs l' (k+1)];congr 1;omega
theorem xY {X Y:Nat->Bool} {t:Nat} : ∀ (l:List F7) (k:Nat) (x y:D),x.1 t=y.1 t->(∀ i r,l[i]? = some r->r.d=some t->X (k+i)=Y (k+i))->(FX X l k x).1 t=(FX Y l k y).1 t
 | [],k,x,y,h,_=>h
 | r::rs,k,x,y,h,tz=>by
  simp only[FX];refine xY rs (k+1) _ _ ?_ λ i r' hr hd=>by
   have:=tz (i+1) r' (by simpa using hr) hd
   rw[show k+1+i=k+(i+1) by omega];exact this
  by_cases hd:r.d=some t
  ·have hx:X k=Y k:=by simpa using tz 0 r rfl hd
   rw[hx];cases Y k
   ·simpa using h
   ·simp [F7.act,PK,hd]
  ·have e1 : ∀ z:D,(r.act z).1 t=z.1 t:=λ z=>by simp [F7.act,PK,hd]
   cases X k<;>cases Y k<;>simp [e1,h]
theorem AhY (E:DS) (s:Nat) (o o':BC) (h:o s=o' s):E.ah o s=E.ah o' s:=by
 cases E with
 | val v=>exact h
 | new s' b v =>
  simp only[DS.ah,BC.put];by_cases hs:s=s'
  ·subst hs;simp [h]
  ·simp [hs,h]
 | yv s' b v =>
  simp only[DS.ah,BC.put];by_cases hs:s=s'
  ·subst hs;simp [h]
  ·simp [hs,h]
 | dt v o2=>rfl
 | wm s' x v =>
  simp only[DS.ah,BC.put];by_cases hs:s=s'
  ·simp [hs]
  ·simp [hs,h]
 | q6 s' x =>
  simp only[DS.ah,BC.put];by_cases hs:s=s'
  ·simp [hs]
  ·simp [hs,h]
theorem xX {X Y:Nat->Bool} {s:Nat} : ∀ (l:List F7) (k:Nat) (x y:D),x.2 s=y.2 s->(∀ i r,l[i]? = some r->X (k+i)=Y (k+i) \/ ∀ o,r.own o s=o s)->(FX X l k x).2 s=(FX Y l k y).2 s
 | [],k,x,y,h,_=>h
 | r::rs,k,x,y,h,tz=>by
  simp only[FX];refine xX rs (k+1) _ _ ?_ λ i r' hr=>by
   have:=tz (i+1) r' (by simpa using hr)
   rw[show k+1+i=k+(i+1) by omega];exact this
  rcases tz 0 r rfl with hx|hx
  ·simp only[Nat.add_zero]at hx
   rw[hx];cases Y k
   ·simpa using h
   ·simp only[if_true,F7.act,F7.own]
    cases r.g
    ·simpa using h
    ·simpa using AhY r.E s _ _ h
  ·have e1 : ∀ z:D,(r.act z).2 s=z.2 s:=λ z=>hx z.2
   cases X k<;>cases Y k<;>simp [e1,h]
theorem oD {X:Nat->Bool} (q:F7) : ∀ (l:List F7) (k:Nat) (x:D),(∀ i r,l[i]? = some r->X (k+i)=true -> ∀ z,r.act (q.act z)=q.act (r.act z))->FX X l k (q.act x)=q.act (FX X l k x)
 | [],k,x,_=>rfl
 | r::rs,k,x,h=>by
  simp only[FX];have dv : ∀ i r',rs[i]? = some r'->X (k+1+i)=true -> ∀ z,r'.act (q.act z)=q.act (r'.act z):=λ i r' hr hX=>h (i+1) r' (by simpa using hr) (by rw[show k+(i+1)=k+1+i by omega];exact hX)
  cases hk:X k
  ·simp only[Bool.false_eq_true,if_false]
   exact oD q rs (k+1) x dv
  ·simp only[if_true]
   rw[h 0 r rfl (by simpa using hk)];exact oD q rs (k+1) _ dv
theorem hJ {X Y:Nat->Bool} : ∀ (l:List F7) (k:Nat) (x:D),(∀ i,i<l.length->X (k+i)=Y (k+i))->FX X l k x=FX Y l k x
 | [],_,_,_=>rfl
 | r::rs,k,x,h=>by
  simp only[FX];rw[show X k=Y k by simpa using h 0 (by simp)];exact hJ rs (k+1) _ λ i hi=>by
   have:=h (i+1) (by simpa using hi)
   rw[show k+1+i=k+(i+1) by omega];exact this
theorem xW {X X':Nat->Bool} {l:List F7} {i:Nat} {q:F7} (hq:l[i]? = some q) (mc:X i=false) (vo : ∀ j,X' j=(decide (j=i)||X j)) (x:D) (Eo : ∀ j r,l[j]? = some r->i<j->X j=true -> ∀ z,r.act (q.act z)=q.act (r.act z)) :
  FX X' l 0 x=q.act (FX X l 0 x):=by
 have ix:i<l.length:=(zS hq).1;have hli:l=l.take i++(q::l.drop (i+1)):=by
  have:l.drop i=q::l.drop (i+1):=by
   rw[List.drop_eq_getElem_cons ix];congr 1;have:=(zS hq).2
   exact this
  rw[<-this,List.take_append_drop]
 have wh:(l.take i).length=i:=by simp;omega
 rw[hli,nZ,nZ,wh,Nat.zero_add];simp only[FX,mc,Bool.false_eq_true,if_false];rw[show X' i=true by rw[vo];simp];simp only[if_true];rw[hJ (X:=X') (Y:=X) (l.take i) 0 x (λ j hj=>by rw[vo];simp;omega)];rw[hJ (X:=X') (Y:=X) (l.drop (i+1)) (i+1) _ (λ j hj=>by rw[vo];simp;omega)];refine oD q _ _ _ λ j r hr Io => ?_
 rw[List.getElem?_drop]at hr;exact Eo (i+1+j) r hr (by omega) Io
end
end Go.e6

namespace Go.e6
open Go.RowKit
section
variable {C:Cl} {c5:List Nat} {ρ:BH->AV}
theorem Ae0 {op:F5} (o o':BC) (ht:KS op=false) (hr:dW op=true->o.n6 c5=o'.n6 c5) (m9 : ∀ s,HA op=some s->o s=o' s):e8 C c5 ρ o op=e8 C c5 ρ o' op:=by
 cases op with
 | nr s n x v =>
  have h1:=m9 s rfl;have h2 : ∀ t i j vs,(o.ma s t i j vs).map (λ q=>DS.q6 s (q s))=(o'.ma s t i j vs).map (λ q=>DS.q6 s (q s)):=λ t i j vs=>by
   have hg:o.get s t=o'.get s t:=by unfold BC.get;rw[h1]
   unfold BC.ma;rw[hg];cases o'.get s t with
   | none=>rfl
   | some b =>
    simp only;cases b.es[i]? with
    | none=>rfl
    | some cs =>
     simp only;split
     ·simp only[Option.map_some,BC.k7,h1]
     ·rfl
  simp only[e8,h2]
 | ld agg n x=>have:=hr rfl;simp only[e8,this]
 | call f xs=>have:=hr rfl;simp only[e8,this]
 | o8 s f xs=>have:=hr rfl;simp only[e8,this]
 | cw s f xs=>have h1:=m9 s rfl;simp only[e8,h1]
 | st=>simp [KS]at ht
 | app=>simp [KS]at ht
 | g7=>simp [KS]at ht
 | o3=>simp [KS]at ht
 | _=>rfl
theorem vR {op:F5} {o:BC} {E:DS} (h:e8 C c5 ρ o op=some E) {s:Nat} (hs:HA op=some s):(∃ b v,E = .new s b v\/E = .yv s b v) \/ ∃ x v,E = .q6 s x\/E = .wm s x v:=by
 cases op with
 | nr s' n x v =>
  simp only[HA,Option.some.injEq]at hs;subst hs;simp only[e8]at h;split at h
  ·split at h
   ·simp only[Option.map_eq_some_iff]at h
    obtain ⟨q,_,rfl⟩:=h;exact .inr ⟨_,.any,.inl rfl⟩
   ·cases h
  ·cases h
 | o8 s' f xs =>
  simp only[HA,Option.some.injEq]at hs;subst hs;simp only[e8]at h;split at h
  ·simp only[Option.map_eq_some_iff]at h
   obtain ⟨r,_,rfl⟩:=h;exact .inl ⟨_,_,.inl rfl⟩
  ·cases h
 | cw s' f xs =>
  simp only[HA,Option.some.injEq]at hs;subst hs;simp only[e8,Option.map_eq_some_iff]at h;obtain ⟨p,_,rfl⟩:=h;exact .inr ⟨_,_,.inr rfl⟩
 | cn s' z =>
  simp only[HA,Option.some.injEq]at hs;subst hs;simp only[e8,Option.some.injEq]at h;exact .inl ⟨_,_,.inr h.symm⟩
 | box s' x =>
  simp only[HA,Option.some.injEq]at hs;subst hs;simp only[e8]at h;split at h
  ·simp only[Option.some.injEq]at h;exact .inl ⟨_,_,.inl h.symm⟩
  ·cases h
 | alloc s' z =>
  simp only[HA,Option.some.injEq]at hs;subst hs;simp only[e8,Option.some.injEq]at h;exact .inl ⟨_,_,.inl h.symm⟩
 | e5 s' b9 ps =>
  simp only[HA,Option.some.injEq]at hs;subst hs;simp only[e8]at h;split at h
  ·split at h
   ·simp only[Option.some.injEq]at h;exact .inl ⟨_,_,.inl h.symm⟩
   ·cases h
  ·cases h
 | mk s' b9 bytes z l c =>
  simp only[HA,Option.some.injEq]at hs;subst hs;simp only[e8]at h;split at h
  ·split at h
   ·simp only[Option.some.injEq]at h;exact .inl ⟨_,_,.inl h.symm⟩
   ·cases h
  ·cases h
 | _=>simp [HA]at hs
theorem pE {α:Type} {x:Option α} {f:α->AV} {E:DS} (h:x.map (λ y=>DS.val (f y))=some E) : ∃ v,E = .val v:=by
 cases x with
 | none=>cases h
 | some y=>simp only[Option.map_some,Option.some.injEq]at h;exact ⟨_,h.symm⟩
theorem vS {op:F5} {o:BC} {E:DS} (h:e8 C c5 ρ o op=some E) (ht:KS op=false) (hs:HA op=none) : ∃ v,E = .val v:=by
 cases op<;>first|(simp [KS]at ht;done)|(simp [HA]at hs;done)|skip
 all_goals simp only[e8]at h
 all_goals
  first
   | (simp only[Option.some.injEq]at h;exact ⟨_,h.symm⟩)
   | exact pE (f:=id) h
   | skip
 all_goals (repeat' split at h)
 all_goals
  first
   | (cases h;done)
   | (simp only[Option.some.injEq]at h;exact ⟨_,h.symm⟩)
   | exact pE (f:=id) h
   | exact pE (f:=AV.agg) h
   | (simp only[Option.map_eq_some_iff]at h;obtain ⟨cs,_,rfl⟩:=h;exact ⟨_,rfl⟩)
theorem Y2 {x:AI} {r:F7} {s s':St} (h:ZK C x r s s') (ht:KS x.op=false) (hs:HA x.op=none) (o:BC):r.own o=o:=by
 unfold F7.own;cases hg:r.g with
 | false=>rfl
 | true =>
  obtain ⟨v,hv⟩:=vS (h.E hg) ht hs;simp [hv,DS.ah]
theorem qB {x:AI} {r:F7} {s s':St} (h:ZK C x r s s') {q:Nat} (hs:HA x.op=some q):(∀ o,r.own o=o) \/ ∃ F:DM->DM,∀ o:BC,r.own o=o.put q (F (o q)):=by
 unfold F7.own;cases hg:r.g with
 | false=>exact .inl λ_=>rfl
 | true =>
  rcases vR (h.E hg) hs with ⟨b,v,hv|hv⟩|⟨x,v,hv|hv⟩
  ·exact .inr ⟨λ q=>q.new b,λ o=>by simp [hv,DS.ah]⟩
  ·exact .inr ⟨λ q=>q.new b,λ o=>by simp [hv,DS.ah]⟩
  ·exact .inr ⟨λ_=>x,λ o=>by simp [hv,DS.ah]⟩
  ·exact .inr ⟨λ_=>x,λ o=>by simp [hv,DS.ah]⟩
theorem Mn {x:AI} {r:F7} {s s':St} (h:ZK C x r s s') {q:Nat} (hs:HA x.op=some q) {p:Nat} (hp:p≠q) (o:BC):r.own o p=o p:=by
 rcases qB h hs with h1|⟨b,h1⟩
 ·rw[h1]
 ·rw[h1];simp [BC.put,hp]
theorem Pc (b:Array Nat) (i j:Nat):OW b i j=OW b j i:=by unfold OW;rw[Nat.max_comm,Nat.min_comm]
theorem YF {ops:Array Oper} {l:List AI} (h:YE ops l=true) {i j:Nat} {x y:AI} (hx:l[i]? = some x) (hy:l[j]? = some y) (m7:i≠j) :
  (OW (Region.before ops) i j=true\/((∀ t,y.dst=some t->t ∉ Z9 x)/\(KS x.op=false\/QL y.op=false)/\(dW x.op=true -> ∀ s,HA y.op=some s->s∈x.c5))) /\
  (OW (Region.before ops) i j=true \/ ∀ s s',HA x.op=some s->HA y.op=some s'->s≠s'):=by
 simp only[YE,Bool.and_eq_true]at h;have h1:=h.1.1;rw[List.all_eq_true]at h1;have hxm:(x,i)∈l.zipIdx:=List.mem_zipIdx_iff_getElem?.2 hx;have hym:(y,j)∈l.zipIdx:=List.mem_zipIdx_iff_getElem?.2 hy;have h2:=h1 (x,i) hxm;simp only at h2;rw[List.all_eq_true]at h2;have h3:=h2 (y,j) hym;simp only[Bool.and_eq_true,Bool.or_eq_true,beq_iff_eq,m7,false_or]at h3;obtain ⟨h4,h5⟩:=h3;refine ⟨?_,h5.imp id λ h5 s s' hs Bq => ?_⟩
 ·unfold Mh at h4
  simp only[Bool.or_eq_true,beq_iff_eq,m7,false_or]at h4;refine h4.imp id λ h6 => ?_
  simp only[Bool.and_eq_true,Bool.or_eq_true,Bool.not_eq_true']at h6;obtain ⟨⟨h7,h8⟩,h9⟩:=h6;refine ⟨λ t ht => ?_,h8,λ hr s hs => ?_⟩
  ·rw[ht]at h7
   simpa using h7
  ·rw[hr,hs]at h9
   simpa using h9
 ·rw[hs,Bq]at h5
  simpa using h5
structure eU (C:Cl) (ops:Array Oper) (l:List AI) (σ:Nat->St) (rs:List F7):Prop where
 ok:YE ops l=true
 len:rs.length=l.length
 fits : ∀ (k:Nat) (x:AI) (r:F7),l[k]? = some x->rs[k]? = some r->ZK C x r (σ k) (σ (k+1))
variable {ops:Array Oper} {l:List AI} {σ:Nat->St} {rs:List F7}
theorem oE {X:Nat->Bool} : ∀ (l:List F7) (k:Nat) (x:D),(∀ i,i<l.length->X (k+i)=false)->FX X l k x=x
 | [],_,_,_=>rfl
 | r::q,k,x,h=>by
  simp only[FX];rw[show X k=false by simpa using h 0 (by simp)];exact oE q (k+1) _ λ i hi=>by
   have:=h (i+1) (by simpa using hi)
   rw[show k+1+i=k+(i+1) by omega];exact this
def d0 (σ:Nat->St):D:=(g6 (σ 0).tm,(σ 0).own)
theorem mN (h:eU C ops l σ rs) : ∀ k,k<=l.length->FX (λ j=>decide (j<k)) rs 0 (d0 σ)=(g6 (σ k).tm,(σ k).own)
 | 0,_=>oE rs 0 _ λ i _=>by simp
 | k+1,hk=>by
  have Bh:k<l.length:=by omega
  have hkr:k<rs.length:=by rw[h.len];exact Bh
  have hr:rs[k]? = some rs[k]:=zE hkr;have hf:=h.fits k l[k] rs[k] (zE Bh) hr;rw[xW (X:=λ j=>decide (j<k)) (X':=λ j=>decide (j<k+1)) hr (by simp) (λ j=>by
   by_cases h1:j=k
   ·simp [h1]
   ·simp [h1];omega) _ (λ j r' _ l8 hX=>by simp at hX;omega),mN h k (by omega)]
  exact hf.act.symm
section
variable {X:Nat->Bool} {i:Nat} {x:AI} {r:F7}
theorem Mf (hX:ZJ ops X) (mc:X i=false) (eo : ∀ o,ops[i]? = some o -> ∀ e∈o.after,Region.binds .any e=true->X e.on=true) {j:Nat} (m7:i≠j) (ho:OW (Region.before ops) i j=true):X j=decide (j<i):=by
 rcases Nat.lt_or_gt_of_ne m7 with l8|rf
 ·have:X j=false:=by
   cases hj:X j with
   | false=>rfl
   | true=>have:=Me hX hj l8 ho;rw[mc]at this;cases this
  rw[this];simp;omega
 ·rw[AhX hX eo rf ho];simp;omega
theorem AeS (h:eU C ops l σ rs) (hx:l[i]? = some x) (hr:rs[i]? = some r) (hX:ZJ ops X) (mc:X i=false) (eo : ∀ o,ops[i]? = some o -> ∀ e∈o.after,Region.binds .any e=true->X e.on=true) :
  RC (FX X rs 0 (d0 σ)).1 x.guard=some r.g/\(r.g=true->e8 C x.c5 (GX (FX X rs 0 (d0 σ)).1) (FX X rs 0 (d0 σ)).2 x.op=some r.E) /\
  (if r.g then r.E.valOf (FX X rs 0 (d0 σ)).2 else .g8 [])=r.v /\
  ∀ X':Nat->Bool,(∀ j,X' j=(decide (j=i)||X j))->FX X' rs 0 (d0 σ)=r.act (FX X rs 0 (d0 σ)):=by
 have ix:i<l.length:=(zS hx).1;have hf:=h.fits i x r hx hr;have Ag:=mN h i (by omega);generalize hT:FX X rs 0 (d0 σ)=TX;have zl : ∀ (j:Nat) (r':F7),rs[j]? = some r' -> ∃ y,l[j]? = some y/\ZK C y r' (σ j) (σ (j+1)):=λ j r' hj=>by
  have gj:j<l.length:=by rw[<-h.len];exact (zS hj).1
  exact ⟨l[j],zE gj,h.fits j _ _ (zE gj) hj⟩
 have Ae : ∀ t∈Z9 x,TX.1 t=g6 (σ i).tm t:=λ t ht=>by
  have:=xY (X:=X) (Y:=λ j=>decide (j<i)) (t:=t) rs 0 (d0 σ) (d0 σ) rfl (λ j r' hj hd=>by
   simp only[Nat.zero_add];by_cases m7:i=j
   ·subst m7;simp [mc]
   ·obtain ⟨y,hy,gx⟩:=zl j r' hj
    rcases (YF h.ok hx hy m7).1 with ho|⟨h1,_⟩
    ·exact Mf hX mc eo m7 ho
    ·exact absurd ht (h1 t (by rw[<-gx.d];exact hd)))
  rw[hT,Ag]at this;exact this
 have Fz : ∀ t∈N6 x.op,TX.1 t=g6 (σ i).tm t:=λ t ht=>Ae t (by simp [Z9,ht])
 have fm : ∀ s,(∀ (j:Nat) (y:AI) (r':F7),i≠j->l[j]? = some y->rs[j]? = some r'->OW (Region.before ops) i j=true \/ ∀ o,r'.own o s=o s)->TX.2 s=(σ i).own s:=λ s hs=>by
  have:=xX (X:=X) (Y:=λ j=>decide (j<i)) (s:=s) rs 0 (d0 σ) (d0 σ) rfl (λ j r' hj=>by
   simp only[Nat.zero_add];by_cases m7:i=j
   ·subst m7;left;simp [mc]
   ·obtain ⟨y,hy,gx⟩:=zl j r' hj
    rcases hs j y r' m7 hy hj with ho|ho
    ·exact .inl (Mf hX mc eo m7 ho)
    ·exact .inr ho)
  rw[hT,Ag]at this;exact this
 have na : ∀ (j:Nat) (y:AI) (r':F7),l[j]? = some y->rs[j]? = some r'->QL y.op=false -> ∀ o,r'.own o=o:=λ j y r' hy hj hm o=>by
  simp only[QL,Bool.or_eq_false_iff]at hm;exact Y2 (h.fits j y r' hy hj) hm.1.1 (by simpa using hm.2) o
 have Fs : ∀ (j:Nat) (y:AI),i≠j->l[j]? = some y->KS y.op=true->QL x.op=true->OW (Region.before ops) i j=true:=λ j y m7 hy ht lj=>by
  rcases (YF h.ok hy hx (Ne.symm m7)).1 with ho|⟨_,h2,_⟩
  ·rw[Pc];exact ho
  ·rw[ht,lj]at h2;simp at h2
 have hg:RC TX.1 x.guard=some r.g:=by
  rw[<-hf.g];cases Ct:x.guard with
  | none=>rfl
  | some gw =>
   obtain ⟨g,w⟩:=gw;simp only[RC];rw[Ae g (by simp [Z9,Ct])]
 have Ai:KS x.op=true->TX.2=(σ i).own:=λ ht=>by
  funext s
  refine fm s λ j y r' m7 hy hj => ?_
  cases hm:QL y.op with
  | false=>exact .inr λ o=>by rw[na j y r' hy hj hm o]
  | true =>
   rcases (YF h.ok hx hy m7).1 with ho|⟨_,h2,_⟩
   ·exact .inl ho
   ·rw[ht,hm]at h2;simp at h2
 have Fp:dW x.op=true->TX.2.n6 x.c5=(σ i).own.n6 x.c5:=λ mh=>by
  refine AgT λ s hs=>fm s λ j y r' m7 hy hj => ?_
  have lj:QL x.op=true:=by simp [QL,mh]
  cases ht:KS y.op with
  | true=>exact .inl (Fs j y m7 hy ht lj)
  | false =>
   cases ke:HA y.op with
   | none=>exact .inr λ o=>by rw[Y2 (h.fits j y r' hy hj) ht ke o]
   | some q =>
    rcases (YF h.ok hx hy m7).1 with ho|⟨_,_,h3⟩
    ·exact .inl ho
    ·exact .inr λ o=>Mn (h.fits j y r' hy hj) ke (p:=s) (λ e=>hs (by rw[e];exact h3 mh q ke)) o
 have Ab : ∀ s,HA x.op=some s->TX.2 s=(σ i).own s:=λ s vg=>by
  have lj:QL x.op=true:=by simp [QL,vg]
  exact fm s λ j y r' m7 hy hj=>by
   cases ht:KS y.op with
   | true=>exact .inl (Fs j y m7 hy ht lj)
   | false =>
    cases ke:HA y.op with
    | none=>exact .inr λ o=>by rw[Y2 (h.fits j y r' hy hj) ht ke o]
    | some q =>
     rcases (YF h.ok hx hy m7).2 with ho|Bu
     ·exact .inl ho
     ·exact .inr λ o=>Mn (h.fits j y r' hy hj) ke (Bu s q vg ke) o
 have Jk:r.g=true->e8 C x.c5 (GX TX.1) TX.2 x.op=some r.E:=λ eu=>by
  rw[AeX Fz,<-hf.E eu];cases ht:KS x.op with
  | true=>rw[Ai ht]
  | false=>exact Ae0 _ _ ht Fp Ab
 have hval:(if r.g then r.E.valOf TX.2 else .g8 [])=r.v:=by
  rw[hf.v];cases Ry:r.g with
  | false=>rfl
  | true =>
   simp only[if_true];cases vg:HA x.op with
   | none =>
    cases ht:KS x.op with
    | true=>rw[Ai ht]
    | false =>
     obtain ⟨v,hv⟩:=vS (hf.E Ry) ht vg;rw[hv];rfl
   | some s =>
    have Bu:=Ab s vg;rcases vR (hf.E Ry) vg with ⟨b,v,hv|hv⟩|⟨x,v,hv|hv⟩<;>rw[hv]<;>simp only[DS.valOf,BC.j5,Bu]
 refine ⟨hg,Jk,hval,λ X' vo => ?_⟩;rw[<-hT];refine xW hr mc vo _ λ j r' hj l8 Io z => ?_
 obtain ⟨y,hy,gx⟩:=zl j r' hj;have m7:i≠j:=by omega
 have Jz : ¬ OW (Region.before ops) i j=true:=λ ho=>by
  have:=Me hX Io l8 ho
  rw[mc]at this;cases this
 obtain ⟨Ke,Cx⟩:=YF h.ok hx hy m7;obtain ⟨zw,Cz⟩:=YF h.ok hy hx (Ne.symm m7);have hp:=Ke.resolve_left Jz;have hq:=zw.resolve_left (by rw[Pc];exact Jz);unfold F7.act;refine Prod.ext ?_ ?_
 ·funext t
  simp only[PK];by_cases h1:r'.d=some t<;>by_cases h2:r.d=some t
  ·exact absurd (by rw[hf.d]at h2;simp [Z9,h2]) (hp.1 t (by rw[<-gx.d];exact h1))
  ·simp [h1,h2]
  ·simp [h1,h2]
  ·simp [h1,h2]
 ·show r'.own (r.own z.2)=r.own (r'.own z.2)
  cases lj:QL x.op with
  | false=>rw[na i x r hx hr lj,na i x r hx hr lj]
  | true =>
   cases qh:QL y.op with
   | false=>rw[na j y r' hy hj qh,na j y r' hy hj qh]
   | true =>
    have Sv:KS x.op=false:=by
     rcases hp.2.1 with h1|h1
     ·exact h1
     ·rw[qh]at h1;cases h1
    have Sx:KS y.op=false:=by
     rcases hq.2.1 with h1|h1
     ·exact h1
     ·rw[lj]at h1;cases h1
    cases vg:HA x.op with
    | none=>rw[Y2 hf Sv vg,Y2 hf Sv vg]
    | some s =>
     cases ke:HA y.op with
     | none=>rw[Y2 gx Sx ke,Y2 gx Sx ke]
     | some s' =>
      have Bu:=(Cx.resolve_left Jz) s s' vg ke;rcases qB hf vg with h1|⟨b,h1⟩
      ·rw[h1,h1]
      ·rcases qB gx ke with h2|⟨b',h2⟩
       ·rw[h2,h2]
       ·rw[h1,h2,h2,h1]
        funext q
        simp only[BC.put];by_cases Ki:q=s<;>by_cases Bn:q=s'
        ·exact absurd (Ki.symm.trans Bn) Bu
        ·simp [Ki,Bu]
        ·simp [Bn,Ne.symm Bu]
        ·simp [Ki,Bn]
end
end
end Go.e6

namespace Go.e6
open Go.RowKit
section
variable {ops:Array Oper} {md:Region.Mode}
theorem Adp {e:Edge} (h:Region.binds .any e=true) (md:Region.Mode):Region.binds md e=true:=by
 unfold Region.binds at *;split at h<;>simp_all
theorem zL (ops:Array Oper) (md:Region.Mode) : ∀ (fuel t:Nat) (c4:Array Bool),c4.size=ops.size -> ∀ (k i:Nat),(Region.linearise.go md ops fuel t c4 [])[k]? = some i ->
  ∃ o,ops[i]? = some o /\ ∀ e∈o.after,Region.binds md e=true->c4.getD e.on false=true\/e.on∈(Region.linearise.go md ops fuel t c4 []).take k
 | 0,t,c4,hs,k,i,h=>by simp [Region.linearise.go]at h
 | fuel+1,t,c4,hs,k,i,h=>by
  have qg:Region.linearise.go md ops (fuel+1) t c4 []=match (Region.ready md ops c4)[t%(Region.ready md ops c4).length]? with
   | some i=>i::Region.linearise.go md ops fuel (t/(Region.ready md ops c4).length) (c4.setIfInBounds i true) []
   | none=>[]:=by
   simp only[Region.linearise.go];change (match (Region.ready md ops c4)[t%(Region.ready md ops c4).length]? with
    | some i=>Region.linearise.go md ops fuel (t/(Region.ready md ops c4).length) (c4.setIfInBounds i true) [i]
    | none=>[].reverse)=_
   cases (Region.ready md ops c4)[t%(Region.ready md ops c4).length]? with
   | none=>rfl
   | some i=>simp only[];rw[linearise_go_acc];rfl
  rw[qg]at h ⊢;cases hr:(Region.ready md ops c4)[t%(Region.ready md ops c4).length]? with
  | none=>rw[hr]at h;simp at h
  | some q =>
   rw[hr]at h;simp only at h ⊢;obtain ⟨_,oq,hoq,hq⟩:=mem_ready.1 (zM hr);cases k with
   | zero =>
    simp at h;subst h;exact ⟨oq,hoq,λ e he hb => .inl (hq e he hb)⟩
   | succ k =>
    simp at h;obtain ⟨o,ho,hh⟩:=zL ops md fuel _ _ (by simpa using hs) k i h;refine ⟨o,ho,λ e he hb => ?_⟩;rcases hh e he hb with h1|h1
    ·by_cases heq:e.on=q
     ·right;simp [heq]
     ·left
      rw[getD_set_ne false (Ne.symm heq)]at h1;exact h1
    ·right;simp [h1]
theorem nW {p:Nat->Bool} : ∀ (l:List Nat),(∃ i∈l,p i=false) -> ∃ k i,l[k]? = some i/\p i=false /\ ∀ j∈l.take k,p j=true
 | [],⟨i,hi,_⟩=>by simp at hi
 | x::r,⟨i,hi,hp⟩=>by
  cases hx:p x with
  | false=>exact ⟨0,x,rfl,hx,by simp⟩
  | true =>
   have : ∃ i∈r,p i=false:=by
    rcases List.mem_cons.1 hi with h|h
    ·subst h;rw[hx]at hp;cases hp
    ·exact ⟨i,h,hp⟩
   obtain ⟨k,j,h1,h2,h3⟩:=nW r this;refine ⟨k+1,j,by simpa using h1,h2,λ q hq => ?_⟩;simp only[List.take_succ_cons,List.mem_cons]at hq;rcases hq with h|h
   ·subst h;exact hx
   ·exact h3 q h
theorem progress {l:List AI} (hd:YE ops l=true) (Ff:md = .gc->Region.departs ops=true) {c4:Array Bool} (hs:c4.size=ops.size) (hr:Region.ready md ops c4=[]) : ∀ j,j<ops.size->c4.getD j false=true:=by
 intro j hj;cases gj:c4.getD j false with
 | true=>rfl
 | false =>
  exfalso;simp only[YE,Bool.and_eq_true]at hd;obtain ⟨⟨_,jl⟩,ur⟩:=hd;have nq : ∀ i,i<ops.size->c4.getD i false=false -> ¬ ∀ o,ops[i]? = some o -> ∀ e∈o.after,Region.binds md e=true->c4.getD e.on false=true:=λ i hi hl oo=>by
   have:i∈Region.ready md ops c4:=mem_ready.2 ⟨by
    have:i<c4.size:=by omega
    simp [Array.getD,this]at hl ⊢;exact hl,ops[i],Array.getElem?_eq_getElem hi,λ e he hb=>oo ops[i] (Array.getElem?_eq_getElem hi) e he hb⟩
   rw[hr]at this;simp at this
  by_cases Gv:md = .gc
  ·subst Gv
   rw[Ff rfl]at ur;simp only[Bool.not_true,Bool.false_or,List.all_eq_true,List.mem_range,List.contains_iff_mem]at ur;obtain ⟨k,i,h1,h2,h3⟩:=nW (p:=λ q=>c4.getD q false) (Region.linearise .gc ops 0) ⟨j,ur j hj,gj⟩;obtain ⟨o,ho,hh⟩:=zL ops .gc ops.size 0 (Array.replicate ops.size false) (by simp) k i h1;have hi:i<ops.size:=(Array.getElem?_eq_some_iff.1 ho).1;refine nq i hi h2 λ o' xx e he hb => ?_
   rw[ho]at xx;obtain rfl:o=o':=by simpa using xx
   rcases hh e he hb with h4|h4
   ·simp [Array.getD]at h4
   ·exact h3 e.on h4
  ·obtain ⟨k,i,h1,h2,h3⟩:=nW (p:=λ q=>c4.getD q false) (List.range ops.size) ⟨j,by simpa using hj,gj⟩
   have Ey:i=k:=by
    have Bh:k<ops.size:=by have:=(zS h1).1;simpa using this
    rw[List.getElem?_range Bh]at h1;simpa using h1.symm
   subst Ey;have hi:i<ops.size:=by have:=(zS h1).1;simpa using this
   refine nq i hi h2 λ o ho e he hb => ?_
   rw[List.all_eq_true]at jl;have Bk:(o,i)∈ops.toList.zipIdx:=List.mem_zipIdx_iff_getElem?.2 (by simpa using ho);have h4:=jl (o,i) Bk;simp only[Array.all_eq_true_iff_forall_mem,Bool.or_eq_true,decide_eq_true_eq]at h4;rcases h4 e he with h5|h5
   ·exact h3 e.on (by rw[List.take_range];simp;omega)
   ·exfalso
    unfold Region.binds at hb;split at h5
    ·rename_i row ri
     rw[ri]at hb;simp at hb;exact Gv hb
    ·cases h5
variable {B:Nat} {S:Nat->Prop} {w0:World} {m0:M} {N:Nat}
variable {P:Program} {num:Nat->Nat} {C:Cl} {Q:Exit->Act->World->Prop}
def ZA (c4:Array Bool) (n:Nat):Nat:=(List.range n).countP (λ j => !c4.getD j false)
theorem uO {α:Type} {p q:α->Bool} : ∀ {l:List α} {x:α},(∀ y∈l,q y=true->p y=true)->x∈l->p x=true->q x=false->l.countP q<l.countP p
 | [],x,_,hx,_,_=>by simp at hx
 | y::r,x,h,hx,hp,hq=>by
  have hle:r.countP q<=r.countP p:=List.countP_mono_left λ z hz hqz=>h z (by simp [hz]) hqz
  rw[List.countP_cons,List.countP_cons];rcases List.mem_cons.1 hx with rfl|hx
  ·simp only[hp,hq,if_true,Bool.false_eq_true,if_false]
   omega
  ·have:=uO (l:=r) (λ z hz=>h z (by simp [hz])) hx hp hq
   by_cases Kj:q y=true
   ·simp only[Kj,h y (by simp) Kj,if_true];omega
   ·simp only[Kj,Bool.false_eq_true,if_false]
    split<;>omega
theorem Ajp (hC:LD P num C) {l:List AI} (j9:WM P num N ops ops.toList l=true) {σ:Nat->St} {rs:List F7} (h:eU C ops l σ rs) (Ff:md = .gc->Region.departs ops=true)
  (hQ : ∀ m' a',m'.own=(σ l.length).own->IX B S w0 m0 N (g6 (σ l.length).tm) m' a'->Q .normal a' m'.w) :
  ∀ (fuel:Nat) (c4:Array Bool) (a:Act) (m:M),c4.size=ops.size->ZA c4 ops.size<=fuel->ZJ ops (λ j=>c4.getD j false)->m.own=(FX (λ j=>c4.getD j false) rs 0 (d0 σ)).2->IX B S w0 m0 N (FX (λ j=>c4.getD j false) rs 0 (d0 σ)).1 m a->wpAny P md ops Q fuel c4 a m.w:=by
 have hlen:ops.size=l.length:=by have:=(dP j9).1;simpa using this
 have final : ∀ (c4:Array Bool) (a:Act) (m:M),(∀ j,j<ops.size->c4.getD j false=true)->m.own=(FX (λ j=>c4.getD j false) rs 0 (d0 σ)).2->IX B S w0 m0 N (FX (λ j=>c4.getD j false) rs 0 (d0 σ)).1 m a->Q .normal a m.w:=λ c4 a m oo l6 hf=>by
  have:FX (λ j=>c4.getD j false) rs 0 (d0 σ)=(g6 (σ l.length).tm,(σ l.length).own):=by
   rw[<-mN h l.length (Nat.le_refl _)];refine hJ rs 0 _ λ i hi => ?_
   simp only[Nat.zero_add];rw[oo i (by rw[hlen,<-h.len];exact hi)];simp;rw[<-h.len];exact hi
  rw[this]at l6 hf;exact hQ m a l6 hf
 have Dm : ∀ c4:Array Bool,ZA c4 ops.size<=0 -> ∀ j,j<ops.size->c4.getD j false=true:=λ c4 h0 j hj=>by
  have h1:ZA c4 ops.size=0:=by omega
  unfold ZA at h1;rw[List.countP_eq_zero]at h1;simpa using h1 j (by simpa using hj)
 intro fuel;induction fuel with
 | zero =>
  intro c4 a m w7 hn Jh l6 hf;refine ⟨?_,final c4 a m (Dm c4 hn) l6 hf⟩;cases hr:Region.ready md ops c4 with
  | nil=>rfl
  | cons i r =>
   obtain ⟨h1,o,ho,_⟩:=mem_ready.1 (show i∈Region.ready md ops c4 by rw[hr];simp);have hi:i<ops.size:=(Array.getElem?_eq_some_iff.1 ho).1;have h2:=Dm c4 hn i hi;have ix:i<c4.size:=by omega
   simp [Array.getD,ix]at h1 h2;rw[h1]at h2;cases h2
 | succ fuel ih =>
  intro c4 a m w7 hn Jh l6 hf;refine ⟨λ hr=>final c4 a m (progress h.ok Ff w7 hr) l6 hf,λ i hi => ?_⟩;obtain ⟨h1,o,ho,Bd⟩:=mem_ready.1 hi;have hio:i<ops.size:=(Array.getElem?_eq_some_iff.1 ho).1;have ix:i<c4.size:=by omega
  have uj:c4.getD i false=false:=by
   simp [Array.getD,ix]at h1 ⊢;exact h1
  have xq:i<l.length:=by omega
  have Ft:i<rs.length:=by rw[h.len];exact xq
  have hx:l[i]? = some l[i]:=zE xq;have hr:rs[i]? = some rs[i]:=zE Ft;have eo : ∀ o',ops[i]? = some o' -> ∀ e∈o'.after,Region.binds .any e=true->c4.getD e.on false=true:=λ o' xx e he hb=>by
   rw[ho]at xx;obtain rfl:o=o':=by simpa using xx
   exact Bd e he (Adp hb md)
  obtain ⟨g1,g2,g3,g4⟩:=AeS h hx hr Jh uj eo;have Kc:=(dP j9).2 i o l[i] (by simpa using ho) hx;have vo : ∀ j,(c4.setIfInBounds i true).getD j false=(decide (j=i)||c4.getD j false):=λ j=>by
   by_cases Jt:j=i
   ·subst Jt;simp [Array.getD,ix]
   ·rw[getD_set_ne false (Ne.symm Jt)];simp [Jt]
  refine Pn hC ho Kc hf g1 (λ hg=>by rw[l6];exact g2 hg) λ m' a' kr mw => ?_
  have lk:=g4 _ vo;refine ih (c4.setIfInBounds i true) a' m' (by simpa using w7) ?_ ?_ ?_ ?_
  ·have l8:ZA (c4.setIfInBounds i true) ops.size<ZA c4 ops.size:=by
    refine uO (x:=i) (λ j _ hj => ?_) (by simpa using hio) (by simp [uj]) (by rw[vo];simp);rw[vo]at hj;simp at hj ⊢;exact hj.2
   omega
  ·intro j oj hj Hc e he hb
   change (c4.setIfInBounds i true).getD j false=true at hj;show (c4.setIfInBounds i true).getD e.on false=true;rw[vo]at hj ⊢;simp only[Bool.or_eq_true,decide_eq_true_eq]at hj ⊢;rcases hj with rfl|hj
   ·exact .inr (eo oj Hc e he hb)
   ·exact .inr (Jh j oj hj Hc e he hb)
  ·rw[lk,kr,l6]
   rfl
  ·rw[lk]
   rw[l6,g3]at mw;have hd:(l[i]).dst=(rs[i]).d:=(h.fits i _ _ hx hr).d.symm;rw[hd]at mw;exact mw
theorem Ajq (hC:LD P num C) {id:Nat} {l:List AI} (j9:WM P num N ops ops.toList l=true) (hd:YE ops l=true) {st k9:St} (m9:FB C l st=some k9) {m:M} {a:Act} (l6:m.own=st.own) (hf:IX B S w0 m0 N (g6 st.tm) m a)
  (hQ : ∀ m' a',m'.own=k9.own->IX B S w0 m0 N (g6 k9.tm) m' a'->Q .normal a' m'.w):(Code.region id ops true).wp P Q a m.w:=by
 obtain ⟨σ,rs,h0,h1,hl,h2⟩:=trace m9;have hD:eU C ops l σ rs:=⟨hd,hl,h2⟩;obtain ⟨lg,Et⟩:=grow hf.mem ((Below.refl m.w.heap.size m.w).drew);have ug:IX B S w0 m0 N (g6 st.tm) ⟨m.ν,m.own,m.w.drew⟩ a:=⟨lg,hf.ext.trans Et,λ i=>Et.cv (hf.tm i),hf.size,hf.defers⟩;have Rh:FX (λ j=>(Array.replicate ops.size false).getD j false) rs 0 (d0 σ)=d0 σ:=oE rs 0 _ λ i _=>by simp [Array.getD]
 have key : ∀ md:Region.Mode,(md = .gc->Region.departs ops=true) -> ∀ t,wpOps P ops Q (Region.linearise md ops t) a m.w.drew:=λ md Ff t=>by
  refine wpAny_sound ops.size t (Array.replicate ops.size false) a m.w.drew ?_;refine Ajp hC j9 hD Ff (by rw[h1];exact hQ) ops.size _ a ⟨m.ν,m.own,m.w.drew⟩ (by simp) ?_ ?_ ?_ ?_
  ·unfold ZA
   exact Nat.le_trans List.countP_le_length (by simp)
  ·intro j o hj
   simp [Array.getD]at hj
  ·rw[Rh];simp [d0,h0,l6]
  ·rw[Rh];simpa [d0,h0] using ug
 refine wp_region_draw λ t => ?_
 change wpOps P ops Q _ a m.w.drew;unfold Region.schedule;split
 ·exact key .any (λ h=>by cases h) t
 ·rename_i Es
  have Rs:Region.departs ops=true:=by simp at Es;exact Es.2
  split
  ·exact key .text (λ_=>Rs) _
  ·exact key .gc (λ_=>Rs) _
end
end Go.e6

namespace Go.e6
open Go.RowKit
section
variable {B:Nat} {S:Nat->Prop} {w0:World} {m0:M} {N:Nat}
variable {P:Program} {num:Nat->Nat} {C:Cl}
theorem Ajd (m:Tm) (l:List Nat) (j:Nat):g6 (bf m l) j=g6 m j\/g6 (bf m l) j = .any:=by
 induction m with
 | nil=>exact .inl rfl
 | cons x r ih =>
  obtain ⟨i,v⟩:=x;simp only[bf];split
  ·by_cases h:j=i
   ·subst h
    rename_i hc;right
    clear ih;induction r with
    | nil=>rfl
    | cons y q ih =>
     obtain ⟨k,u⟩:=y;simp only[bf];split
     ·exact ih
     ·rename_i hk
      have : ¬ j=k:=λ e=>by subst e;exact hk hc
      simp only[g6,if_neg this];exact ih
   ·rcases ih with h1|h1
    ·left;simp only[g6,if_neg h];exact h1
    ·right;exact h1
  ·by_cases h:j=i
   ·left;simp [g6,h]
   ·simp only[g6,if_neg h]
    exact ih
inductive OR (P:Program) (num:Nat->Nat) (N:Nat):List It->List Item->Prop
 | nil:OR P num N [] []
 | code {c:Code} {a:CP} {k:List It} {t:List Item} (h:HK P num N c a=true) (hk:OR P num N k t):OR P num N (.code a::k) (.code c::t)
 | drop {ts ss:List Nat} {k:List It} {t:List Item} (hk:OR P num N k t):OR P num N (.ns ts ss::k) t
 | e7 {id:Nat} {k:List It} {t:List Item} (hk:OR P num N k t):OR P num N (.e7 id::k) (.inBlock id::t)
 | lp {c:Code} {a:CP} {k:List It} {t:List Item} (h:HK P num N c a=true) (hk:OR P num N k t):OR P num N (.lp a::k) (.inLoop c::t)
 | scope {c:Code} {k:List It} {t:List Item} (hk:OR P num N k t):OR P num N k (.inScope c::t)
theorem Qg {b:Frame} {a:Act} {k:List Item} {cs:List Frame} {w:World} {c:Code}:step P (lone (b.at a (.inScope c::k)) cs w) = .next (lone (b.at a k) cs w) :=
 step_lone_go (by simp [stepG,stepG.exec,Frame.at])
theorem Ai3 {b:Frame} {a:Act} {k:List Item} {cs:List Frame} {w:World} {c:Code}:step P (lone (b.at a (.code (.scope c)::k)) cs w) = .next (lone (b.at a (.code c :: .inScope c::k)) cs w) :=
 step_lone_go (by simp [stepG,stepG.exec,Frame.at])
theorem Z5 {id:Nat} : ∀ {k:List It} {t:List Item},OR P num N k t -> ∀ {k':List It},IQ id k=some k' -> ∃ t',exitTo id t=some t'/\OR P num N k' t'
 | _,_,.nil,k',h=>by simp [IQ]at h
 | _,_,.code h0 hk,k',h=>by
  simp only[IQ]at h;obtain ⟨t',h1,h2⟩:=Z5 hk h;exact ⟨t',by simpa [exitTo] using h1,h2⟩
 | _,_,.drop hk,k',h=>by
  simp only[IQ]at h;exact Z5 hk h
 | _,_,.e7 (id:=Hn) hk,k',h=>by
  simp only[IQ]at h;split at h
  ·rename_i he
   subst he;simp only[Option.some.injEq]at h;subst h;exact ⟨_,by simp [exitTo],hk⟩
  ·rename_i he
   obtain ⟨t',h1,h2⟩:=Z5 hk h;exact ⟨t',by simpa [exitTo,he] using h1,h2⟩
 | _,_,.lp h0 hk,k',h=>by
  simp only[IQ]at h;obtain ⟨t',h1,h2⟩:=Z5 hk h;exact ⟨t',by simpa [exitTo] using h1,h2⟩
 | _,_,.scope hk,k',h=>by
  obtain ⟨t',h1,h2⟩:=Z5 hk h;exact ⟨t',by simpa [exitTo] using h1,h2⟩
def rW (B:Nat) (S:Nat->Prop) (w0:World) (m0:M) (N:Nat) (P:Program) (b:Frame) (cs:List Frame) (Li:Machine) (k9:St):Prop :=
 ∃ a' m' n7,Steps P Li (lone { b.at a' n7 with mode := .returning } cs m'.w)/\m'.own=k9.own/\IX B S w0 m0 N (g6 k9.tm) m' a'
theorem AiA (hC:LD P num C) (b:Frame) (cs:List Frame) : ∀ (n:Nat) (k:List It) (st k9:St),run C n k st=some k9 -> ∀ (t:List Item),OR P num N k t -> ∀ (m:M) (a:Act),m.own=st.own->IX B S w0 m0 N (g6 st.tm) m a ->
  rW B S w0 m0 N P b cs (lone (b.at a t) cs m.w) k9:=by
 intro n;induction n with
 | zero=>intro k st k9 h;simp [run]at h
 | succ n ih =>
  intro k st k9 h t ht;have fin : ∀ (t:List Item),OR P num N [] t -> ∀ (m:M) (a:Act),m.own=st.own->IX B S w0 m0 N (g6 st.tm) m a->st=k9->rW B S w0 m0 N P b cs (lone (b.at a t) cs m.w) k9:=by
   intro t ht;generalize hk:([]:List It)=kk at ht;induction ht with
   | nil =>
    intro m a l6 hf he;subst he;exact ⟨a,m,[],.one step_end,l6,hf⟩
   | scope jc kg =>
    intro m a l6 hf he;obtain ⟨a',m',n7,h1,h2⟩:=kg hk m a l6 hf he;exact ⟨a',m',n7,.head Qg h1,h2⟩
   | code=>cases hk
   | drop=>cases hk
   | e7=>cases hk
   | lp=>cases hk
  cases k with
  | nil =>
   intro m a l6 hf;simp only[run,Option.some.injEq]at h;exact fin t ht m a l6 hf h
  | cons it k =>
   generalize kb:it::k=kk at ht;induction ht with
   | nil=>cases kb
   | scope jc kg =>
    intro m a l6 hf;obtain ⟨a',m',n7,h1,h2⟩:=kg kb m a l6 hf;exact ⟨a',m',n7,.head Qg h1,h2⟩
   | @e7 id k2 t2 jc kg =>
    intro m a l6 hf;obtain ⟨rfl,rfl⟩:it = .e7 id/\k=k2:=by simpa using kb
    simp only[run]at h;obtain ⟨a',m',n7,h1,h2⟩:=ih k st k9 h t2 jc m a l6 hf;exact ⟨a',m',n7,.head step_inBlock h1,h2⟩
   | @lp c ac k2 t2 j9 jc kg =>
    intro m a l6 hf;obtain ⟨rfl,rfl⟩:it = .lp ac/\k=k2:=by simpa using kb
    simp only[run]at h;obtain ⟨a',m',n7,h1,h2⟩:=ih _ st k9 h (.code c :: .inLoop c::t2) (.code j9 (.lp j9 jc)) m a l6 hf;exact ⟨a',m',n7,.head step_inLoop h1,h2⟩
   | @drop ts ss k2 t2 jc kg =>
    intro m a l6 hf;obtain ⟨rfl,rfl⟩:it = .ns ts ss/\k=k2:=by simpa using kb
    simp only[run]at h;obtain ⟨mf,he⟩:=AeT hf.mem ss;have mw:IX B S w0 m0 N (g6 (bf st.tm ts)) ⟨m.ν,m.own.drop ss,m.w⟩ a:=⟨mf,hf.ext.trans he,λ i=>by
     rcases Ajd st.tm ts i with h1|h1
     ·rw[h1];exact he.cv (hf.tm i)
     ·rw[h1];exact .any _,hf.size,hf.defers⟩
    obtain ⟨a',m',n7,h1,h2,h3⟩:=ih k ⟨bf st.tm ts,st.own.drop ss⟩ k9 h t2 jc ⟨m.ν,m.own.drop ss,m.w⟩ a (by simp [l6]) mw;exact ⟨a',m',n7,h1,h2,h3⟩
   | @code c ac k2 t2 j9 jc kg =>
    obtain ⟨rfl,rfl⟩:it = .code ac/\k=k2:=by simpa using kb
    clear kg kb;intro m a l6 hf;cases ac with
    | dr ac ts ss =>
     simp only[HK]at j9;simp only[run]at h;exact ih _ st k9 h _ (.code j9 (.drop jc)) m a l6 hf
    | skip =>
     simp only[run]at h;cases c with
     | skip =>
      obtain ⟨a',m',n7,h1,h2⟩:=ih _ st k9 h _ jc m a l6 hf;exact ⟨a',m',n7,.head step_skip h1,h2⟩
     | label =>
      obtain ⟨a',m',n7,h1,h2⟩:=ih _ st k9 h _ jc m a l6 hf;exact ⟨a',m',n7,.head step_label h1,h2⟩
     | _=>simp [HK]at j9
    | scope ac =>
     simp only[run]at h;cases c with
     | scope c =>
      simp only[HK]at j9;obtain ⟨a',m',n7,h1,h2⟩:=ih _ st k9 h _ (.code j9 (.scope (c:=c) jc)) m a l6 hf;exact ⟨a',m',n7,.head Ai3 h1,h2⟩
     | _=>simp [HK]at j9
    | seq a1 a2 =>
     simp only[run]at h;cases c with
     | seq c1 c2 =>
      simp only[HK,Bool.and_eq_true]at j9;obtain ⟨a',m',n7,h1,h2⟩:=ih _ st k9 h _ (.code j9.1 (.code j9.2 jc)) m a l6 hf;exact ⟨a',m',n7,.head step_seq h1,h2⟩
     | _=>simp [HK]at j9
    | cond x a1 a2 =>
     simp only[run]at h;cases c with
     | cond xc c1 c2 =>
      simp only[HK,Bool.and_eq_true]at j9;have w5:CV B S m (st.ev x) (a.eval xc):=by rw[wB];exact hf.says xc x j9.1.1
      split at h
      ·rename_i hx
       rw[hx]at w5;obtain ⟨a',m',n7,h1,h2⟩:=ih _ st k9 h _ (.code j9.1.2 jc) m a l6 hf;exact ⟨a',m',n7,.head (step_cond (YD w5)) h1,h2⟩
      ·rename_i hx
       rw[hx]at w5;obtain ⟨a',m',n7,h1,h2⟩:=ih _ st k9 h _ (.code j9.2 jc) m a l6 hf;exact ⟨a',m',n7,.head (step_cond (YD w5)) h1,h2⟩
      ·cases h
     | _=>simp [HK]at j9
    | block id ac =>
     simp only[run]at h;cases c with
     | block Hn c =>
      simp only[HK,Bool.and_eq_true,beq_iff_eq]at j9;obtain ⟨rfl,j9⟩:=j9;obtain ⟨a',m',n7,h1,h2⟩:=ih _ st k9 h _ (.code j9 (.e7 jc)) m a l6 hf;exact ⟨a',m',n7,.head step_block h1,h2⟩
     | _=>simp [HK]at j9
    | loop ac =>
     simp only[run]at h;cases c with
     | loop c =>
      simp only[HK]at j9;obtain ⟨a',m',n7,h1,h2⟩:=ih _ st k9 h _ (.code j9 (.lp j9 jc)) m a l6 hf;exact ⟨a',m',n7,.head step_loop h1,h2⟩
     | _=>simp [HK]at j9
    | exit id =>
     simp only[run]at h;cases c with
     | exit Hn =>
      simp only[HK,beq_iff_eq]at j9;subst j9;split at h
      ·rename_i k' se
       obtain ⟨t',e1,e2⟩:=Z5 jc se;obtain ⟨a',m',n7,h1,h2⟩:=ih _ st k9 h _ e2 m a l6 hf;exact ⟨a',m',n7,.head (step_exit e1) h1,h2⟩
      ·cases h
     | _=>simp [HK]at j9
    | ret =>
     simp only[run,Option.some.injEq]at h;subst h;cases c with
     | ret=>exact ⟨a,m,.code .ret::t2,.one step_ret,l6,hf⟩
     | _=>simp [HK]at j9
    | ops l draw =>
     simp only[run]at h;split at h
     ·rename_i B8 Fv
      cases c with
      | region id ops qa =>
       simp only[HK,Bool.and_eq_true,beq_iff_eq]at j9;obtain ⟨⟨rfl,Fi⟩,ow⟩:=j9;have hwp:(Code.region id ops qa).wp P (λ e a' w'=>e = .normal /\ ∃ m',m'.w=w'/\m'.own=B8.own/\IX B S w0 m0 N (g6 B8.tm) m' a') a m.w:=by
        cases qa with
        | true=>exact Ajq hC Fi (by simpa using ow) Fv l6 hf λ m' a' h1 h2=>⟨rfl,m',rfl,h1,h2⟩
        | false =>
         refine wp_region ?_;rw[List.range_eq_range'];exact Po hC Fi ops.size 0 st B8 m a (by omega) (by simpa using Fv) l6 hf λ m' a' h1 h2=>⟨rfl,m',rfl,h1,h2⟩
       obtain ⟨e,a1,w1,⟨rfl,m1,rfl,Fk,ug⟩,Iy⟩:=hwp b t2 cs;obtain ⟨a',m',n7,h1,h2,h3⟩:=ih _ B8 k9 h _ jc m1 a1 Fk ug;exact ⟨a',m',n7,Steps.trans Iy h1,h2,h3⟩
      | _=>simp [HK]at j9
     ·cases h
end
end Go.e6
