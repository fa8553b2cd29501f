/-
  Calls: readings handed over and handed back.
-/
import Derived.Test.YtcoldcgafbbjoaaGreatB3
import Derived.Orders
set_option linter.unusedSimpArgs false
set_option linter.unusedVariables false
set_option linter.unnecessarySimpa false
namespace Go.g6
open Go.RowKit
theorem OZ {α β:Type} (f:α->Option β) : ∀ {l:List α} {l':List β},l.mapM f=some l'->l.length=l'.length /\ ∀ (i:Nat) (x:α),l[i]? = some x -> ∃ y,l'[i]? = some y/\f x=some y
 | [],l',h=>by
  simp at h;subst h;exact ⟨rfl,λ i x hx=>by simp at hx⟩
 | x::r,l',h=>by
  simp only[List.mapM_cons,Option.bind_eq_bind,Option.pure_def]at h;cases hx:f x with
  | none=>simp [hx]at h
  | some y =>
   cases hr:r.mapM f with
   | none=>simp [hx,hr]at h
   | some r' =>
    simp [hx,hr]at h;subst h;obtain ⟨h1,h2⟩:=OZ f hr;refine ⟨by simp [h1],λ i z hz => ?_⟩;cases i with
    | zero=>simp at hz;subst hz;exact ⟨y,rfl,hx⟩
    | succ i=>exact h2 i z (by simpa using hz)
section
variable {B:Nat} {S:Nat->Prop} {w0:World} {m:M}
variable {P:Program} {num:Nat->Nat} {o:Oper} {a:Act} {ρ:AP->AV}
theorem uX (hm:BP B S w0 m) (l0:Bool) (R:Bool->Nat->Prop) (hR : ∀ l b,b<m.w.heap.size->safe B S m l b->R l b) (hL : ∀ s t g,live m s t->m.ν s t=some g->R l0 g) :
  ∀ (d:Nat) (c c':AV) (v:Value),snap m.own l0 d c=some c'->CC B S m c v->Rd m.w R c' v:=by
 intro d;induction d with
 | zero =>
  intro c c' v h hc;cases hc with
  | rd hr =>
   have:c'=c:=by cases hr<;>simp [snap]at h<;>exact h.symm
   subst this;exact hr.mono hR (λ_ _ _ _=>rfl)
  | nil=>simp [snap]at h;subst h;exact .ke _ _ _
  | _=>simp [snap]at h
 | succ d ih =>
  intro c c' v h hc;cases hc with
  | rd hr =>
   have:c'=c:=by cases hr<;>simp [snap]at h<;>exact h.symm
   subst this;exact hr.mono hR (λ_ _ _ _=>rfl)
  | nil=>simp [snap]at h;subst h;exact .ke _ _ _
  | ptr=>simp [snap]at h
  | w6=>simp [snap]at h
  | row s t z off len ad cap ht ep pf ha hb =>
   simp only[snap]at h;cases fu:EM m.own (.row s t z off len) with
   | none=>simp [fu]at h
   | some es =>
    simp only[fu]at h;cases jv:es.mapM (λ cs:List AV=>cs.mapM (snap m.own l0 d)) with
    | none=>simp [jv]at h
    | some es' =>
     simp [jv]at h;subst h;have Nv:(∀ e∈es,e.length=z)/\es.length=len /\ ∃ b,m.own.get s t=some b:=by
      simp only[EM]at fu;cases s9:m.own.get s t with
      | none=>simp [s9]at fu
      | some b =>
       simp only[s9]at fu;split at fu
       ·rename_i hle
        obtain rfl:=Option.some.inj fu;refine ⟨λ e he => ?_,by simp;omega,b,rfl⟩;rw[<-hle.2];exact (hm.g8 s t b s9).1 e (List.mem_of_mem_drop (List.mem_of_mem_take he))
       ·cases fu
     obtain ⟨hz,hlen,b,s9⟩:=Nv;have aj:CV B S m (.row s t z off len) (.slice ad len cap):= .ca (.one (.row s t z off len ad cap ht ep pf ha hb));obtain ⟨ad2,Br,news,Jf,hE⟩:=cR hm aj fu hz ep;obtain ⟨rfl,_,rfl⟩:ad=ad2/\len=es.length/\cap=Br:=by simpa using Jf
     obtain ⟨ng,wv⟩:=OZ _ jv;by_cases h0:es=[]
     ·subst h0
      have:es'=[]:=List.eq_nil_of_length_eq_zero (by rw[<-ng];rfl)
      subst this;have:len=0:=by rw[<-hlen];rfl
      subst this;exact .ke _ _ _
     ·obtain ⟨_,df⟩:=hb b s9
      rcases df with ⟨AmJ,_⟩|⟨g,arr,e',hg,mi,hh,Kz⟩
      ·exact absurd (List.eq_nil_of_length_eq_zero (by omega)) h0
      ·rw[mi,<-hlen,ng]
       refine .sl l0 es' g (off*z) z cap (λ i j=>news.getD (i*z+j) undef) (λ e=>h0 (List.eq_nil_of_length_eq_zero (by rw[ng,e];rfl))) ep (hL s t g ⟨b,s9⟩ hg) (by omega) (λ e' ju => ?_) (λ i e hi j c hj => ?_) (λ i e hi j c hj => ?_)
       ·obtain ⟨i,hi,rfl⟩:=List.getElem_of_mem ju
        have v9:i<es.length:=by omega
        obtain ⟨y,hy,fx⟩:=wv i es[i] (zE v9);have:es'[i]=y:=by
         have:=(zS hy).2;exact this
        rw[this,<-(OZ _ fx).1];exact hz _ (List.getElem_mem v9)
       ·have v9:i<es.length:=by rw[ng];exact (zS hi).1
        obtain ⟨y,hy,fx⟩:=wv i es[i] (zE v9);rw[hi]at hy;obtain rfl:e=y:=by simpa using hy
        obtain ⟨iz,_⟩:=OZ _ fx;have Dx:j<(es[i]).length:=by rw[iz];exact (zS hj).1
        obtain ⟨u,hu,ib⟩:=hE.rel i es[i] (zE v9) j _ (zE Dx);have:=hE.cells _ mi (i*z+j) u hu
        rw[HB]at this;simp only[List.getD,hu,Option.getD_some];exact this
       ·have v9:i<es.length:=by rw[ng];exact (zS hi).1
        obtain ⟨y,hy,fx⟩:=wv i es[i] (zE v9);rw[hi]at hy;obtain rfl:e=y:=by simpa using hy
        obtain ⟨iz,jk⟩:=OZ _ fx;have Dx:j<(es[i]).length:=by rw[iz];exact (zS hj).1
        obtain ⟨u,hu,ib⟩:=hE.rel i es[i] (zE v9) j _ (zE Dx);obtain ⟨c2,oa,qz⟩:=jk j _ (zE Dx);rw[hj]at oa;obtain rfl:c=c2:=by simpa using oa
        simp only[List.getD,hu,Option.getD_some];exact ih _ _ _ qz ib
def DA (w:World) (R:Bool->Nat->Prop) (c:AV) (v:Value):Prop :=
 Rd w R c v \/ ∃ (cs:List AV) (vs:List Value),c = .agg cs/\v = .agg vs.toArray/\cs.length=vs.length /\ ∀ (j:Nat) (x:AV) (u:Value),cs[j]? = some x->vs[j]? = some u->Rd w R x u
theorem Z4 (hm:BP B S w0 m) (l0:Bool) (R:Bool->Nat->Prop) (hR : ∀ l b,b<m.w.heap.size->safe B S m l b->R l b) (hL : ∀ s t g,live m s t->m.ν s t=some g->R l0 g)
  {c c':AV} {v:Value} (h:j5 m.own l0 c=some c') (hc:CV B S m c v):DA m.w R c' v:=by
 cases hc with
 | any v=>simp [j5,snap]at h
 | g9=>simp [j5,snap]at h
 | ca hc=>cases hc with
  | one hc =>
   have h':snap m.own l0 6 c=some c':=by
    cases hc with
    | rd hr=>cases hr<;>simpa [j5] using h
    | _=>simpa [j5] using h
   exact Or.inl (uX hm l0 R hR hL 6 c c' v h' hc)
  | fn=>simp [j5,snap]at h
  | wg=>simp [j5,snap]at h
  | agg cs vs u9 =>
   simp only[j5]at h;cases gk:cs.mapM (snap m.own l0 6) with
   | none=>simp [gk]at h
   | some fr =>
    simp [gk]at h;subst h;obtain ⟨h1,h2⟩:=OZ _ gk;refine Or.inr ⟨fr,vs,rfl,rfl,h1.symm.trans u9.1,λ j x u hx hu => ?_⟩;have hj:j<cs.length:=by rw[h1];exact (zS hx).1
    obtain ⟨y,hy,fx⟩:=h2 j cs[j] (zE hj);rw[hx]at hy;obtain rfl:x=y:=by simpa using hy
    exact uX hm l0 R hR hL 6 _ _ _ fx (u9.2 j cs[j] u (zE hj) hu)
def DV (w:World) (R:Bool->Nat->Prop) (c:AV) (v:Value):Prop :=
 DA w R c v \/ ∃ (cs:List AV) (vs:List Value),c = .g9 cs/\v = .tuple vs.toArray/\cs.length=vs.length /\ ∀ (j:Nat) (x:AV) (u:Value),cs[j]? = some x->vs[j]? = some u->DA w R x u
theorem Ag7 (hm:BP B S w0 m) (l0:Bool) (R:Bool->Nat->Prop) (hR : ∀ l b,b<m.w.heap.size->safe B S m l b->R l b) (hL : ∀ s t g,live m s t->m.ν s t=some g->R l0 g)
  {c c':AV} {v:Value} (h:QD m.own l0 c=some c') (hc:CV B S m c v):DV m.w R c' v:=by
 by_cases ht : ∃ cs,c = .g9 cs
 ·obtain ⟨cs,rfl⟩:=ht
  obtain ⟨vs,rfl,hl,ax⟩:=cB hc;simp only[QD]at h;cases gk:cs.mapM (j5 m.own l0) with
  | none=>simp [gk]at h
  | some fr =>
   simp [gk]at h;subst h;obtain ⟨h1,h2⟩:=OZ _ gk;refine Or.inr ⟨fr,vs,rfl,rfl,h1.symm.trans hl,λ j x u hx hu => ?_⟩;have hj:j<cs.length:=by rw[h1];exact (zS hx).1
   obtain ⟨y,hy,fx⟩:=h2 j cs[j] (zE hj);rw[hx]at hy;obtain rfl:x=y:=by simpa using hy
   exact Z4 hm l0 R hR hL fx (.ca (ax j cs[j] u (zE hj) hu))
 ·have h':j5 m.own l0 c=some c':=by
   cases c<;>first|exact h|exact absurd ⟨_,rfl⟩ ht
  exact Or.inl (Z4 hm l0 R hR hL h' hc)
theorem DA.ca {B:Nat} {S:Nat->Prop} {m:M} {c:AV} {v:Value} (h:DA m.w (safe B S m) c v):CA B S m c v:=by
 rcases h with h|⟨cs,vs,rfl,rfl,hl,hh⟩
 ·exact .one (.rd h)
 ·exact .agg cs vs ⟨hl,λ j x u hx hu => .rd (hh j x u hx hu)⟩
theorem DV.cv {B:Nat} {S:Nat->Prop} {m:M} {c:AV} {v:Value} (h:DV m.w (safe B S m) c v):CV B S m c v:=by
 rcases h with h|⟨cs,vs,rfl,rfl,hl,hh⟩
 ·exact .ca h.ca
 ·exact .g9 cs vs hl λ j x u hx hu=>(hh j x u hx hu).ca
theorem K6 : ∀ {cs:List AV},CJ cs -> ∀ (j:Nat) (c:AV),cs[j]? = some c->A7 c
 | [],_,j,c,h=>by simp at h
 | x::r,hc,j,c,h=>by
  unfold CJ at hc;cases j with
  | zero=>simp at h;subst h;exact hc.1
  | succ j=>exact K6 hc.2 j c (by simpa using h)
theorem XW : ∀ {cs:List (List AV)},GL cs -> ∀ (j:Nat) (c:List AV),cs[j]? = some c->CJ c
 | [],_,j,c,h=>by simp at h
 | x::r,hc,j,c,h=>by
  unfold GL at hc;cases j with
  | zero=>simp at h;subst h;exact hc.1
  | succ j=>exact XW hc.2 j c (by simpa using h)
theorem Rd.clean {w:World} {R R':Bool->Nat->Prop} (hR : ∀ b,b<w.heap.size->R false b->R' false b) {c:AV} {v:Value} (h:Rd w R c v) (hc:A7 c):Rd w R' c v:=by
 induction h with
 | int k n=>exact .int k n
 | bool b=>exact .bool b
 | str s=>exact .str s
 | my=>exact .my
 | ke l a cap=>exact .ke l a cap
 | emp b a cap h=>exact .emp b a cap h
 | sl l es b o a9 cap u n9 hp h1 bq hz u9 hr ih =>
  unfold A7 at hc;obtain ⟨rfl,hc⟩:=hc;obtain ⟨e,c,he,gi⟩:=VK n9 hp hz;have hb:b<w.heap.size:=Q0 (u9 0 e he 0 c gi);exact .sl false es b o a9 cap u n9 hp (hR b hb h1) bq hz u9 λ i e he j c hj=>ih i e he j c hj (K6 (XW hc i e he) j c hj)
theorem DA.clean {w:World} {R R':Bool->Nat->Prop} (hR : ∀ b,b<w.heap.size->R false b->R' false b) {c:AV} {v:Value} (h:DA w R c v) (hc:A7 c):DA w R' c v:=by
 rcases h with h|⟨cs,vs,rfl,rfl,hl,hh⟩
 ·exact Or.inl (h.clean hR hc)
 ·unfold A7 at hc
  exact Or.inr ⟨cs,vs,rfl,rfl,hl,λ j x u hx hu=>(hh j x u hx hu).clean hR (K6 hc j x hx)⟩
theorem DV.clean {w:World} {R R':Bool->Nat->Prop} (hR : ∀ b,b<w.heap.size->R false b->R' false b) {c:AV} {v:Value} (h:DV w R c v) (hc:A7 c):DV w R' c v:=by
 rcases h with h|⟨cs,vs,rfl,rfl,hl,hh⟩
 ·exact Or.inl (h.clean hR hc)
 ·unfold A7 at hc
  exact Or.inr ⟨cs,vs,rfl,rfl,hl,λ j x u hx hu=>(hh j x u hx hu).clean hR (K6 hc j x hx)⟩
theorem cA {B:Nat} {S:Nat->Prop} {m:M} {c:AV} {v:Value} (h:CV B S m c v) (hc:A7 c):DV m.w (safe B S m) c v:=by
 have one : ∀ {c:AV} {v:Value},CC B S m c v->A7 c->Rd m.w (safe B S m) c v:=λ h hc=>by
  cases h with
  | rd h=>exact h
  | _=>unfold A7 at hc;exact hc.elim
 have ca : ∀ {c:AV} {v:Value},CA B S m c v->A7 c->DA m.w (safe B S m) c v:=λ h hc=>by
  cases h with
  | one h=>exact Or.inl (one h hc)
  | fn=>unfold A7 at hc;exact hc.elim
  | wg=>unfold A7 at hc;exact hc.elim
  | agg cs vs h =>
   unfold A7 at hc;exact Or.inr ⟨cs,vs,rfl,rfl,h.1,λ j x u hx hu=>one (h.2 j x u hx hu) (K6 hc j x hx)⟩
 cases h with
 | any v=>unfold A7 at hc;exact hc.elim
 | ca h=>exact Or.inl (ca h hc)
 | g9 as vs hl h =>
  unfold A7 at hc;exact Or.inr ⟨as,vs,rfl,rfl,hl,λ j x u hx hu=>ca (h j x u hx hu) (K6 hc j x hx)⟩
theorem ZU {f:Nat} {xs:Array Operand} {ts:Array TypeId} (m9:o.op = .call ⟨.value (.func f),xs,ts⟩) {w:World} (h:(callFunc f (xs.map a.eval)).run P w = .ok (.enter f (xs.map a.eval)) w):(execOp a.eval o).run P w = .ok (.enter f (xs.map a.eval)) w:=by
 simp [execOp,m9,resolve,Deferred.ofValue,Act.eval,invoke];exact h
theorem mN {C:Cl} (hC:GX P num C) (hm:BP B S w0 m) {f:Nat} {us:List Value} {as:List AV} (hl:us.length=as.length) (hx : ∀ (j:Nat) (v:Value) (c:AV),us[j]? = some v->as[j]? = some c->CV B S m c v) (hex : ∀ w:World,(callFunc (num f) us.toArray).run P w = .ok (.enter (num f) us.toArray) w->(execOp a.eval o).run P w = .ok (.enter (num f) us.toArray) w) {vs:List AV} {r:AV} (hv:as.mapM (j5 m.own true)=some vs) (hr:C.pure f vs=some r):CU B S w0 P o a m (.val r):=by
 obtain ⟨iz,jk⟩:=OZ _ hv;have lj : ∀ (j:Nat) (c:AV) (v:Value),vs[j]? = some c->us[j]? = some v->CA m.w.heap.size (safe B S m false) ⟨λ_ _=>none,AH.emp,m.w⟩ c v:=by
  intro j c v hc vg;have ew:j<as.length:=by rw[<-hl];exact (zS vg).1
  obtain ⟨y,hy,fx⟩:=jk j as[j] (zE ew);rw[hc]at hy;obtain rfl:c=y:=by simpa using hy
  have aj:=hx j v as[j] vg (zE ew);have qj:=Z4 hm true (safe m.w.heap.size (safe B S m false) ⟨λ_ _=>none,AH.emp,m.w⟩) (λ l b hb zq=>by
   cases l with
   | false=>exact .inl ⟨zq,hb⟩
   | true=>exact .inr (.inr ⟨rfl,hb⟩)) (λ s t g ko hg=>by
   obtain ⟨_,arr,e,hh⟩:=hm.ge ko hg;exact .inr (.inr ⟨rfl,(Array.getElem?_eq_some_iff.1 hh).1⟩)) fx aj
  exact DA.ca (m:=⟨λ_ _=>none,AH.emp,m.w⟩) qj
 have gj:=hC.pure f vs r hr (safe B S m false) m.w us (by rw[<-iz];exact hl.symm) lj;intro K Q hK;unfold Oper.wp;rw[hex _ (hC.wc f vs r hr _ _)];refine Calls.mono gj λ e w' ⟨u,ju,jr,aj,u9⟩ => ?_
 subst ju;obtain ⟨nh,ik⟩:=grow hm jr;refine hK u ⟨m.ν,m.own,w'⟩ rfl nh ik ?_;refine DV.cv (m:=⟨m.ν,m.own,w'⟩) ((cA aj u9).clean (λ b hb zq => ?_) u9);rcases zq with ⟨h1,h2⟩|⟨h1,_⟩|⟨h1,_⟩
 ·exact ik.Bl false b h2 h1
 ·refine .inr (.inl ⟨Nat.le_trans hm.size h1,λ s t ko hg => ?_⟩)
  obtain ⟨b',n6⟩:=Option.isSome_iff_exists.1 ko;obtain ⟨_,arr,e,hh⟩:=hm.ge ⟨b',n6⟩ hg;have:=(Array.getElem?_eq_some_iff.1 hh).1
  omega
 ·cases h1
theorem mM {C:Cl} (hC:GX P num C) (hm:BP B S w0 m) (hs:CP B S m ρ a.eval) {f:Nat} {xs:Array Operand} {q9:List AP} (he:ED xs.toList q9=true) (hex : ∀ w:World,(callFunc (num f) (xs.map a.eval)).run P w = .ok (.enter (num f) (xs.map a.eval)) w->(execOp a.eval o).run P w = .ok (.enter (num f) (xs.map a.eval)) w) {vs:List AV} {r:AV} (hv:(q9.map ρ).mapM (j5 m.own true)=some vs) (hr:C.pure f vs=some r):CU B S w0 P o a m (.val r):=by
 obtain ⟨hl,hx⟩:=Q8 hs he;have il:(xs.map a.eval)=(xs.toList.map a.eval).toArray:=by cases xs;simp
 rw[il]at hex;refine mN hC hm (us:=xs.toList.map a.eval) (as:=q9.map ρ) (by simp [hl]) (λ j v c h1 h2 => ?_) hex hv hr;rw[List.getElem?_map]at h1 h2;cases me:xs.toList[j]? with
 | none=>simp [me]at h1
 | some x =>
  cases pq:q9[j]? with
  | none=>simp [pq]at h2
  | some y =>
   simp only[me,pq,Option.map_some,Option.some.injEq]at h1 h2;subst h1 h2;exact hx j x y me pq
theorem Ve {C:Cl} (hC:GX P num C) (hm:BP B S w0 m) (hs:CP B S m ρ a.eval) {f:Nat} {q9:List AP} (h:BI P num o.op (.call f q9)=true) {vs:List AV} {r:AV} (hv:(q9.map ρ).mapM (j5 m.own true)=some vs) (hr:C.pure f vs=some r):CU B S w0 P o a m (.val r):=by
 obtain ⟨xs,ts,m9,he⟩:=dZ h;exact mM hC hm hs he (λ w h=>ZU m9 h) hv hr
theorem cK {C:Cl} (hC:GX P num C) (hm:BP B S w0 m) (hs:CP B S m ρ a.eval) {f:Nat} {q9:List AP} (h:BI P num o.op (.c9 f q9)=true) {r:AV} {n0:AH} (hr:C.fp f (q9.map ρ) m.own=some (r,n0)):CU B S w0 P o a m (.dp r n0):=by
 obtain ⟨xs,ts,m9,he⟩:=Aek h;obtain ⟨hl,hx⟩:=Q8 hs he;have il:(xs.map a.eval)=(xs.toList.map a.eval).toArray:=by cases xs;simp
 have gj:=hC.fp f (q9.map ρ) m.own r n0 hr B S w0 m (xs.toList.map a.eval) rfl hm (by simp [hl]) (λ j c v hc hv=>by
  rw[List.getElem?_map]at hc hv;cases me:xs.toList[j]? with
  | none=>simp [me]at hv
  | some x =>
   cases pq:q9[j]? with
   | none=>simp [pq]at hc
   | some y =>
    simp [me]at hv;simp [pq]at hc;subst hv hc;exact hx j x y me pq)
 intro K Q hK;unfold Oper.wp;rw[ZU m9 (hC.qe f _ _ _ hr _ _),il];refine Calls.mono gj λ e w' ⟨u,m',ju,hw,l8,nh,ik,aj⟩ => ?_
 subst ju hw;exact hK u m' l8 nh ik aj
theorem Ry (hm:BP B S w0 m) {w':World} (hb:Below m.w.heap.size m.w w') (s:Nat) (b:D7) (gg:Option Nat) (hz : ∀ x∈b.es,x.length=b.a9)
  (hg:match gg with|none=>b.es=[]|some g=>m.w.heap.size<=g /\ ∃ arr e,w'.heap[g]? = some (.cells arr e (0,0)) /\ ∀ i cs,b.es[i]? = some cs -> ∀ j c,cs[j]? = some c -> ∃ u,arr[i*b.a9+j]? = some u/\CC B S ⟨j7 m s gg,m.own.put s ((m.own s).new b),w'⟩ c u) :
  BP B S w0 ⟨j7 m s gg,m.own.put s ((m.own s).new b),w'⟩/\DM B S m ⟨j7 m s gg,m.own.put s ((m.own s).new b),w'⟩:=by
 have hν : ∀ s' t',live m s' t'->j7 m s gg s' t'=m.ν s' t':=λ s' t' hl=>by
  unfold j7;rw[if_neg];rintro ⟨rfl,rfl⟩
  exact Y7 hm _ hl
 have qo : ∀ g,gg=some g->m.w.heap.size<=g:=λ g e=>by subst e;exact hg.1
 have he:DM B S m ⟨j7 m s gg,m.own.put s ((m.own s).new b),w'⟩:=by
  refine RE hm hb.size (λ k hk _=>hb.block k hk) (λ s' => ?_) (λ s' t' b' ht n6 => ?_) (λ s' t' g hl fy o7 => ?_)
  ·rw[LB];split
   ·rename_i h;subst h;omega
   ·exact Nat.le_refl _
  ·rw[F7]at n6
   rw[if_neg (by rintro ⟨rfl,rfl⟩;omega)]at n6;refine ⟨b',n6,rfl,hν s' t' ⟨b',n6⟩,λ g ar e' fy ha=>⟨ar,?_,rfl⟩⟩;exact (hb.block g (Array.getElem?_eq_some_iff.1 ha).1).trans ha
  ·obtain ⟨b',n6⟩:=hl
   rw[F7]at n6;by_cases h:s'=s/\t'=m.own.j6 s
   ·simp only[j7,if_pos h]at fy
    have:=qo g fy
    omega
   ·rw[if_neg h]at n6
    exact ⟨s',t',⟨b',n6⟩,by rw[<-hν s' t' ⟨b',n6⟩];exact fy⟩
 refine ⟨⟨hm.below.trans (hb.mono hm.size),Nat.le_trans hm.size hb.size,λ s' t' ht => ?_,λ s' t' b' n6 => ?_,λ s1 t1 s2 t2 b1 b2 g h1 h2 g1 g2 => ?_⟩,he⟩
 ·rw[LB]at ht
  rw[F7,if_neg]
  ·refine hm.fresh s' t' ?_
   split at ht
   ·rename_i h;subst h;omega
   ·exact ht
  ·rintro ⟨rfl,rfl⟩
   simp at ht;omega
 ·rw[F7]at n6
  by_cases h:s'=s/\t'=m.own.j6 s
  ·rw[if_pos h]at n6
   obtain rfl:b=b':=by simpa using n6
   refine ⟨hz,?_⟩;show match j7 m s gg s' t' with|none=>_|some g=>_
   rw[show j7 m s gg s' t'=gg by simp [j7,h]];cases gg with
   | none=>exact hg
   | some g=>exact ⟨Nat.le_trans hm.size hg.1,hg.2⟩
  ·rw[if_neg h]at n6
   obtain ⟨h1,h2⟩:=hm.g8 s' t' b' n6;refine ⟨h1,?_⟩;show match j7 m s gg s' t' with|none=>_|some g=>_
   rw[hν s' t' ⟨b',n6⟩];cases hv:m.ν s' t' with
   | none=>rw[hv]at h2;exact h2
   | some g =>
    rw[hv]at h2;obtain ⟨h3,ar,e',h4,h5⟩:=h2;refine ⟨h3,ar,e',(hb.block g (Array.getElem?_eq_some_iff.1 h4).1).trans h4,λ i cs hi j c hj => ?_⟩;obtain ⟨u,hu,ax⟩:=h5 i cs hi j c hj;exact ⟨u,hu,he.cc ax⟩
 ·rw[F7]at h1 h2
  have lt : ∀ s' t' b',m.own.get s' t'=some b'->j7 m s gg s' t'=some g->g<m.w.heap.size:=λ s' t' b' n6 fy=>by
   rw[hν s' t' ⟨b',n6⟩]at fy;obtain ⟨_,ar,e',h4⟩:=hm.ge ⟨b',n6⟩ fy;exact (Array.getElem?_eq_some_iff.1 h4).1
  have at_ : ∀ s' t',s'=s/\t'=m.own.j6 s->j7 m s gg s' t'=some g->m.w.heap.size<=g:=λ s' t' h fy=>by
   simp only[j7,if_pos h]at fy;exact qo g fy
  by_cases p1:s1=s/\t1=m.own.j6 s<;>by_cases p2:s2=s/\t2=m.own.j6 s
  ·exact ⟨p1.1.trans p2.1.symm,p1.2.trans p2.2.symm⟩
  ·rw[if_neg p2]at h2
   have:=lt s2 t2 b2 h2 g2
   have:=at_ s1 t1 p1 g1
   omega
  ·rw[if_neg p1]at h1
   have:=lt s1 t1 b1 h1 g1
   have:=at_ s2 t2 p2 g2
   omega
  ·rw[if_neg p1]at h1
   rw[if_neg p2]at h2;exact hm.inj s1 t1 s2 t2 b1 b2 g h1 h2 (by rw[<-hν s1 t1 ⟨b1,h1⟩];exact g1) (by rw[<-hν s2 t2 ⟨b2,h2⟩];exact g2)
theorem Vj {C:Cl} (hC:GX P num C) (hm:BP B S w0 m) (hs:CP B S m ρ a.eval) {s f:Nat} {q9:List AP} (h:BI P num o.op (.z0 s f q9)=true) {vs:List AV} (hv:(q9.map ρ).mapM (bd m.own true)=some vs) {z:Nat} {es:List (List AV)} (hr:OO (C.fp f vs AH.emp)=some (z,es)) :
  CU B S w0 P o a m (.new s ⟨z,es⟩ (λ t => .row s t z 0 es.length)):=by
 obtain ⟨xs,ts,m9,he⟩:=dZ (Aem h);obtain ⟨s0,t0,o',b0,Iv,s9,rfl,u9⟩:=Rx hr;obtain ⟨hl,hx⟩:=Q8 hs he;obtain ⟨iz,jk⟩:=OZ _ hv;have il:(xs.map a.eval)=(xs.toList.map a.eval).toArray:=by cases xs;simp
 have lj : ∀ (j:Nat) (c:AV) (v:Value),vs[j]? = some c->(xs.toList.map a.eval)[j]? = some v->CV m.w.heap.size (safe B S m false) ⟨λ_ _=>none,AH.emp,m.w⟩ c v:=by
  intro j c v hc vg;rw[List.getElem?_map]at vg;cases me:xs.toList[j]? with
  | none=>simp [me]at vg
  | some x =>
   simp [me]at vg;subst vg;have ew:j<q9.length:=by rw[<-hl];exact (zS me).1
   obtain ⟨y,hy,fx⟩:=jk j (ρ q9[j]) (by rw[List.getElem?_map,zE ew];rfl);rw[hc]at hy;obtain rfl:c=y:=by simpa using hy
   have aj:=hx j x q9[j] me (zE ew);have hN:(ρ q9[j] = .nil/\c = .nil)\/j5 m.own true (ρ q9[j])=some c:=by
    cases e:ρ q9[j] with
    | nil=>rw[e]at fx;exact .inl ⟨rfl,(Option.some.inj fx).symm⟩
    | _=>rw[e]at fx;exact .inr fx
   rcases hN with ⟨e1,rfl⟩|fx
   ·rw[e1]at aj
    rw[PM aj];exact .ca (.one .nil)
   have qj:=Z4 hm true (safe m.w.heap.size (safe B S m false) ⟨λ_ _=>none,AH.emp,m.w⟩) (λ l b hb zq=>by
    cases l with
    | false=>exact .inl ⟨zq,hb⟩
    | true=>exact .inr (.inr ⟨rfl,hb⟩)) (λ s t g ko hg=>by
    obtain ⟨_,arr,e,hh⟩:=hm.ge ko hg;exact .inr (.inr ⟨rfl,(Array.getElem?_eq_some_iff.1 hh).1⟩)) fx aj
   exact .ca (DA.ca (m:=⟨λ_ _=>none,AH.emp,m.w⟩) qj)
 have Lx:BP m.w.heap.size (safe B S m false) m.w ⟨λ_ _=>none,AH.emp,m.w⟩:=⟨Below.refl _ _,Nat.le_refl _,λ_ _ _=>rfl,(λ s t b h=>by cases h),(λ_ _ _ _ _ _ _ h=>by cases h)⟩;have gj:=hC.fp f vs AH.emp _ o' Iv m.w.heap.size (safe B S m false) m.w ⟨λ_ _=>none,AH.emp,m.w⟩ (xs.toList.map a.eval) rfl Lx (by rw[<-iz];simp [hl]) lj;intro K Q hK;unfold Oper.wp;rw[ZU m9 (hC.qe f _ _ _ Iv _ _),il];refine Calls.mono gj λ e w' ⟨u,m',ju,hw,l8,nh,Pg,aj⟩ => ?_
 subst ju hw;have jr:Below m.w.heap.size m.w m'.w:=nh.below;rw[<-l8]at s9;obtain ⟨hz,ny⟩:=nh.g8 s0 t0 b0 s9;obtain ⟨ad,cap,rfl,ht,ep,pf,ha,hb⟩:=SZ aj;obtain ⟨iq,df⟩:=hb b0 s9;subst iq;have hold : ∀ s t g,live m s t->m.ν s t=some g->g<m.w.heap.size:=λ s t g ko hg=>by
  obtain ⟨_,arr,e,hh⟩:=hm.ge ko hg;exact (Array.getElem?_eq_some_iff.1 hh).1
 have Cv : ∀ s' t' g,live ⟨j7 m s (m'.ν s0 t0),m.own.put s ((m.own s).new ⟨b0.a9,b0.es⟩),m'.w⟩ s' t'->j7 m s (m'.ν s0 t0) s' t'=some g->g<m.w.heap.size\/m'.ν s0 t0=some g:=λ s' t' g ko hg=>by
  obtain ⟨b',n6⟩:=ko;rw[F7]at n6;by_cases m4:s'=s/\t'=m.own.j6 s
  ·simp only[j7,if_pos m4]at hg
   exact Or.inr hg
  ·rw[if_neg m4]at n6
   simp only[j7,if_neg m4]at hg;exact Or.inl (hold s' t' g ⟨b',n6⟩ hg)
 have hR : ∀ b,b<m'.w.heap.size->safe m.w.heap.size (safe B S m false) m' false b->safe B S ⟨j7 m s (m'.ν s0 t0),m.own.put s ((m.own s).new ⟨b0.a9,b0.es⟩),m'.w⟩ false b:=λ b Cg zq=>by
  rcases zq with ⟨h1,h2⟩|⟨h1,h2⟩|⟨h1,_⟩
  ·rcases h1 with h1|⟨h1,h3⟩|⟨h1,_⟩
   ·exact .inl h1
   ·refine .inr (.inl ⟨h1,λ s' t' ko hg => ?_⟩)
    obtain ⟨b',n6⟩:=Option.isSome_iff_exists.1 ko;have w9:=n6;rw[F7]at w9;by_cases m4:s'=s/\t'=m.own.j6 s
    ·simp only[j7,if_pos m4]at hg
     rw[hg]at ny;have:=ny.1
     omega
    ·rw[if_neg m4]at w9
     simp only[j7,if_neg m4]at hg;exact h3 s' t' (by rw[w9];rfl) hg
   ·cases h1
  ·refine .inr (.inl ⟨Nat.le_trans hm.size h1,λ s' t' ko hg => ?_⟩)
   rcases Cv s' t' b (Option.isSome_iff_exists.1 ko) hg with h3|h3
   ·omega
   ·exact h2 s0 t0 (by rw[s9];rfl) h3
  ·cases h1
 obtain ⟨Cw,ik⟩:=Ry hm jr s ⟨b0.a9,b0.es⟩ (m'.ν s0 t0) hz (by
  cases hν:m'.ν s0 t0 with
  | none=>rw[hν]at ny;exact ny
  | some g =>
   rw[hν]at ny hR;obtain ⟨h1,arr,e,h2,h3⟩:=ny;refine ⟨h1,arr,e,h2,λ i cs hi j c hj => ?_⟩;obtain ⟨u,hu,ax⟩:=h3 i cs hi j c hj;refine ⟨u,hu,.rd ?_⟩;have Ch:=K6 (XW u9 i cs hi) j c hj;have ku:Rd m'.w (safe m.w.heap.size (safe B S m false) m') c u:=by
    cases ax with
    | rd h=>exact h
    | _=>unfold A7 at Ch;exact Ch.elim
   exact ku.clean hR Ch)
 refine hK _ ⟨j7 m s (m'.ν s0 t0),m.own.put s ((m.own s).new ⟨b0.a9,b0.es⟩),m'.w⟩ rfl Cw ik (.ca (.one (.row s (m.own.j6 s) b0.a9 0 b0.es.length ad cap (by show m.own.j6 s<AH.j6 (m.own.put s _) s;rw[LB,if_pos rfl];omega) ep pf ha λ b1 qi => ?_)));have Ft:(m.own.put s ((m.own s).new ⟨b0.a9,b0.es⟩)).get s (m.own.j6 s)=some b1:=qi;rw[F7,if_pos ⟨rfl,rfl⟩]at Ft;obtain rfl:=Option.some.inj Ft;refine ⟨rfl,?_⟩;rcases df with h0|⟨g,arr,e,hg,mi,hh,hle⟩
 ·exact .inl h0
 ·exact .inr ⟨g,arr,e,by simp [j7,hg],mi,hh,hle⟩
theorem lT {p:Bool} {f g:Nat} {cs:List AV} {v:Value} (h:CV B S m (.fn p f g cs) v) (hp:p=false\/cs=[]) : ∃ vs:List Value,v = .func (.func g) #[] vs.toArray/\CL B S m cs vs:=by
 cases h with
 | ca h=>cases h with
  | one h=>cases h with
   | rd h=>cases h
  | fn p f g cs vs hp h=>exact ⟨vs,rfl,h⟩
  | wg f g cs vs n9 h =>
   rcases hp with hp|hp
   ·cases hp
   ·exact absurd hp n9
theorem Vu {f g:Nat} {cs:List AV} {v:Value} (h:CV B S m (.fn true f g cs) v) (n9:cs≠[]) : ∃ vs:List Value,v = .func (.func g) #[.agg vs.toArray] #[]/\CL B S m cs vs:=by
 cases h with
 | ca h=>cases h with
  | one h=>cases h with
   | rd h=>cases h
  | fn p f g cs vs hp h=>exact absurd (hp rfl) n9
  | wg f g cs vs n9 h=>exact ⟨vs,rfl,h⟩
theorem tR {f:Nat} {x:Operand} {xs:Array Operand} {ts:Array TypeId} {vs:Array Value} (m9:o.op = .call ⟨.value x,xs,ts⟩) (hx:a.eval x = .func (.func f) #[] vs) {w:World} (h:(callFunc f (xs.map a.eval++vs)).run P w = .ok (.enter f (xs.map a.eval++vs)) w):(execOp a.eval o).run P w = .ok (.enter f (xs.map a.eval++vs)) w:=by
 simp [execOp,m9,resolve,Deferred.ofValue,hx,invoke];exact h
theorem Vk {C:Cl} (hC:GX P num C) (hm:BP B S w0 m) (hs:CP B S m ρ a.eval) {x':AP} {q9:List AP} (h:BI P num o.op (.q8 x' q9)=true) {f:Nat} {cs:List AV} (hf:ρ x' = .fn false f (num f) cs) {r:AV} {n0:AH} (hr:C.fp f (q9.map ρ++cs) m.own=some (r,n0)):CU B S w0 P o a m (.dp r n0):=by
 obtain ⟨x,xs,ts,m9,zu,he⟩:=eA h;obtain ⟨hl,hx⟩:=Q8 hs he;obtain ⟨vs,hv,u9⟩:=lT (hf ▸ hs x x' zu) (.inl rfl);have il:(xs.map a.eval++vs.toArray)=(xs.toList.map a.eval++vs).toArray:=by cases xs;simp
 have gj:=hC.fp f (q9.map ρ++cs) m.own r n0 hr B S w0 m (xs.toList.map a.eval++vs) rfl hm (by simp [hl,u9.1]) (λ j c v hc hv=>by
  by_cases hj:j<q9.length
  ·rw[List.getElem?_append_left (by simpa using hj),List.getElem?_map]at hc
   rw[List.getElem?_append_left (by simpa [hl] using hj),List.getElem?_map]at hv;have Pn:j<xs.toList.length:=by rw[hl];exact hj
   rw[zE hj]at hc;rw[zE Pn]at hv;simp only[Option.map_some,Option.some.injEq]at hc hv;subst hc hv;exact hx j _ _ (zE Pn) (zE hj)
  ·rw[List.getElem?_append_right (by simpa using hj),List.length_map]at hc
   rw[List.getElem?_append_right (by simpa [hl] using hj),List.length_map,hl]at hv;exact .ca (.one (u9.2 _ c v hc hv)))
 intro K Q hK;unfold Oper.wp;rw[tR m9 hv (hC.qe f _ _ _ hr _ _),il];refine Calls.mono gj λ e w' ⟨u,m',ju,hw,l8,nh,ik,aj⟩ => ?_
 subst ju hw;exact hK u m' l8 nh ik aj
theorem Vg {C:Cl} (hC:GX P num C) (hm:BP B S w0 m) (hs:CP B S m ρ a.eval) {x':AP} {q9:List AP} (h:BI P num o.op (.q8 x' q9)=true) {f:Nat} (hf:ρ x' = .fn true f (num f) []) {vs:List AV} {r:AV} (hv:(q9.map ρ).mapM (j5 m.own true)=some vs) (hr:C.pure f vs=some r):CU B S w0 P o a m (.val r):=by
 obtain ⟨x,xs,ts,m9,zu,he⟩:=eA h;obtain ⟨us,hu,u9⟩:=lT (hf ▸ hs x x' zu) (.inr rfl);have hu0:us=[]:=List.eq_nil_of_length_eq_zero (by rw[<-u9.1];rfl);subst hu0;refine mM hC hm hs he (λ w h => ?_) hv hr;have:=tR (P:=P) (w:=w) m9 hu (by simpa using h)
 simpa using this
theorem Af6 {f:Nat} {x:Operand} {xs:Array Operand} {ts:Array TypeId} {u:Value} (m9:o.op = .call ⟨.value x,xs,ts⟩) (hx:a.eval x = .func (.func f) #[u] #[]) {w:World} (h:(callFunc f (#[u]++xs.map a.eval)).run P w = .ok (.enter f (#[u]++xs.map a.eval)) w):(execOp a.eval o).run P w = .ok (.enter f (#[u]++xs.map a.eval)) w:=by
 simp [execOp,m9,resolve,Deferred.ofValue,hx,invoke];exact h
theorem Vf {C:Cl} (hC:GX P num C) (hm:BP B S w0 m) (hs:CP B S m ρ a.eval) {x':AP} {q9:List AP} (h:BI P num o.op (.q8 x' q9)=true) {f:Nat} {c:AV} {cs:List AV} (hf:ρ x' = .fn true f (num f) (c::cs)) {vs:List AV} {r:AV} (hv:(AV.agg (c::cs)::q9.map ρ).mapM (j5 m.own true)=some vs) (hr:C.pure f vs=some r):CU B S w0 P o a m (.val r):=by
 obtain ⟨x,xs,ts,m9,zu,he⟩:=eA h;obtain ⟨us,hu,u9⟩:=Vu (hf ▸ hs x x' zu) (by simp);obtain ⟨hl,hx⟩:=Q8 hs he;have il:(#[Value.agg us.toArray]++xs.map a.eval)=(Value.agg us.toArray::xs.toList.map a.eval).toArray:=by cases xs;simp
 refine mN hC hm (us:=Value.agg us.toArray::xs.toList.map a.eval) (as:=AV.agg (c::cs)::q9.map ρ) (by simp [hl]) (λ j v c' h1 h2 => ?_) (λ w h=>by
  rw[<-il]at h ⊢;exact Af6 m9 hu h) hv hr
 cases j with
 | zero =>
  simp only[List.getElem?_cons_zero,Option.some.injEq]at h1 h2;subst h1 h2;exact .ca (.agg _ _ u9)
 | succ j =>
  rw[List.getElem?_cons_succ,List.getElem?_map]at h1 h2;cases me:xs.toList[j]? with
  | none=>simp [me]at h1
  | some x =>
   cases pq:q9[j]? with
   | none=>simp [pq]at h2
   | some y =>
    simp only[me,pq,Option.map_some,Option.some.injEq]at h1 h2;subst h1 h2;exact hx j x y me pq
theorem Rd.to1 {w:World} {R R':Bool->Nat->Prop} (hR : ∀ l b,b<w.heap.size->R l b -> ∀ l',R' l' b) {c:AV} {v:Value} (h:Rd w R c v) (hq:GF c=true):Rd w R' (T3 c) v:=by
 cases h with
 | int k n=>exact .int k n
 | bool b=>exact .bool b
 | str s=>simp [GF]at hq
 | my=>simp [GF]at hq
 | emp=>simp [GF]at hq
 | ke l a cap=>exact .ke false a cap
 | sl l es b o a9 cap u n9 hp h1 bq hz u9 hr =>
  obtain ⟨e,c,he,gi⟩:=VK n9 hp hz;have hb:b<w.heap.size:=Q0 (u9 0 e he 0 c gi);exact .sl false es b o a9 cap u n9 hp (hR l b hb h1 false) bq hz u9 λ i e he j c hj=>(hr i e he j c hj).mono (λ l b hb h=>hR l b hb h l) (λ_ _ _ _=>rfl)
theorem Rd.Ae {w:World} {R R':Bool->Nat->Prop} (hR : ∀ b,b<w.heap.size->R false b->R' true b) {c:AV} {v:Value} (h:Rd w R c v) (hc:A7 c) (hf:UA c):Rd w R' (VQ c) v:=by
 cases h with
 | int k n=>exact .int k n
 | bool b=>exact .bool b
 | str s=>exact hf.elim
 | my=>exact hf.elim
 | emp=>exact hf.elim
 | ke l a cap=>exact .ke true a cap
 | sl l es b o a9 cap u n9 hp h1 bq hz u9 hr =>
  unfold A7 at hc;obtain ⟨rfl,hc⟩:=hc;obtain ⟨e,c,he,gi⟩:=VK n9 hp hz;have hb:b<w.heap.size:=Q0 (u9 0 e he 0 c gi);refine .sl true es b o a9 cap u n9 hp (hR b hb h1) bq hz u9 λ i e he j c hj => ?_
  have Mc:=hf e (zM he) c (zM hj);have Dc:=hr i e he j c hj;generalize u i j=vv at Dc ⊢;cases Dc<;>first|exact .int _ _|exact .bool _|(simp [sB]at Mc)
theorem eK : ∀ l:List AV,LQ l=l.map G4
 | []=>by simp [LQ]
 | c::r=>by rw[LQ,eK r];rfl
theorem rE : ∀ l:List (List AV),OA l=l.map λ e=>e.map G4
 | []=>by simp [OA]
 | c::r=>by rw[OA,rE r,eK];rfl
theorem Rd.Af {w:World} {R R':Bool->Nat->Prop} (hR : ∀ b,b<w.heap.size->R false b->R' true b) {c:AV} {v:Value} (h:Rd w R c v):A7 c->Rd w R' (G4 c) v:=by
 induction h with
 | int k n=>intro _;exact .int k n
 | bool b=>intro _;exact .bool b
 | str s=>intro _;exact .str s
 | my=>intro _;exact .my
 | emp b a cap h=>intro _;exact .emp b a cap h
 | ke l a cap=>intro _;exact .ke true a cap
 | sl l es b o a9 cap u n9 hp h1 bq hz u9 hr ih =>
  intro hc;unfold A7 at hc;obtain ⟨rfl,hc⟩:=hc;obtain ⟨e,c,he,gi⟩:=VK n9 hp hz;have hb:b<w.heap.size:=Q0 (u9 0 e he 0 c gi);have fm : ∀ (i:Nat) (e':List AV),(es.map λ e:List AV=>e.map G4)[i]? = some e' -> ∃ e,es[i]? = some e/\e'=e.map G4:=λ i e' h=>by
   rw[List.getElem?_map]at h;cases hi:es[i]? with
   | none=>simp [hi]at h
   | some e=>exact ⟨e,rfl,by simpa [hi] using h.symm⟩
  have Fq : ∀ (e:List AV) (j:Nat) (c':AV),(e.map G4)[j]? = some c' -> ∃ c,e[j]? = some c/\c'=G4 c:=λ e j c' h=>by
   rw[List.getElem?_map]at h;cases hi:e[j]? with
   | none=>simp [hi]at h
   | some c=>exact ⟨c,rfl,by simpa [hi] using h.symm⟩
  have key:=Rd.sl (w:=w) (R:=R') true (es.map λ e:List AV=>e.map G4) b o a9 cap u (by simpa using n9) hp (hR b hb h1) (by simpa using bq)
   (λ e' ju=>by
    obtain ⟨e,he,rfl⟩:=List.mem_map.1 ju;rw[List.length_map];exact hz e he)
   (λ i e' hi j c' hj=>by
    obtain ⟨e,he,rfl⟩:=fm i e' hi;obtain ⟨c,uv,rfl⟩:=Fq e j c' hj;exact u9 i e he j c uv)
   (λ i e' hi j c' hj=>by
    obtain ⟨e,he,rfl⟩:=fm i e' hi;obtain ⟨c,uv,rfl⟩:=Fq e j c' hj;exact ih i e he j c uv (K6 (XW hc i e he) j c uv))
  rw[List.length_map]at key;rw[G4,rE];exact key
theorem Vh {C:Cl} (hC:GX P num C) (hm:BP B S w0 m) (hs:CP B S m ρ a.eval) {f:Nat} {q9:List AP} (h:BI P num o.op (.n7 f q9)=true) (hq:(q9.map ρ).all dq=true) {r:AV} (hr:C.pure f ((q9.map ρ).map yp)=some r) (Ll:JH r\/QO r):CU B S w0 P o a m (.val (LR r)):=by
 obtain ⟨xs,ts,m9,he⟩:=dZ (Ael h);obtain ⟨hl,hx⟩:=Q8 hs he;have il:(xs.map a.eval)=(xs.toList.map a.eval).toArray:=by cases xs;simp
 have hR : ∀ l b,b<m.w.heap.size->safe B S m l b -> ∀ l',safe m.w.heap.size (safe B S m true) ⟨λ_ _=>none,AH.emp,m.w⟩ l' b:=λ l b hb h l' => .inl ⟨gV h,hb⟩
 have hcell : ∀ (c:AV) (v:Value),CC B S m c v->GF c=true->Rd m.w (safe m.w.heap.size (safe B S m true) ⟨λ_ _=>none,AH.emp,m.w⟩) (T3 c) v:=λ c v hc hd=>by
  cases hc with
  | rd hr=>exact hr.to1 hR hd
  | nil=>exact .ke false none 0
  | row=>simp [GF]at hd
  | ptr=>simp [GF]at hd
  | w6=>simp [GF]at hd
 have lj : ∀ (j:Nat) (c:AV) (v:Value),((q9.map ρ).map yp)[j]? = some c->(xs.toList.map a.eval)[j]? = some v->CA m.w.heap.size (safe B S m true) ⟨λ_ _=>none,AH.emp,m.w⟩ c v:=by
  intro j c v hc vg;rw[List.getElem?_map,List.getElem?_map]at hc;rw[List.getElem?_map]at vg;cases me:xs.toList[j]? with
  | none=>simp [me]at vg
  | some x =>
   cases pq:q9[j]? with
   | none=>simp [pq]at hc
   | some y =>
    simp [me]at vg;simp [pq]at hc;subst vg hc;have aj:=hx j x y me pq;have hd:dq (ρ y)=true:=List.all_eq_true.1 hq _ (List.mem_map_of_mem (zM pq));generalize ρ y=cy at aj hd ⊢;generalize a.eval x=vx at aj ⊢;cases aj with
    | any=>simp [dq,GF]at hd
    | g9=>simp [dq,GF]at hd
    | ca nf =>
     cases nf with
     | one Fw =>
      have pd:GF cy=true/\yp cy=T3 cy:=by
       cases Fw with
       | rd hr=>cases hr<;>exact ⟨hd,rfl⟩
       | _=>exact ⟨hd,rfl⟩
      rw[pd.2];exact .one (.rd (hcell _ _ Fw pd.1))
     | agg cs vs u9 =>
      refine .agg (cs.map T3) vs ⟨by simpa using u9.1,λ k c' v' x7 nk => ?_⟩;rw[List.getElem?_map]at x7;cases lq:cs[k]? with
      | none=>simp [lq]at x7
      | some c0 =>
       simp [lq]at x7;subst x7;exact .rd (hcell c0 v' (u9.2 k c0 v' lq nk) (List.all_eq_true.1 hd _ (zM lq)))
     | fn=>simp [dq,GF]at hd
     | wg=>simp [dq,GF]at hd
 have gj:=hC.pure f _ r hr (safe B S m true) m.w (xs.toList.map a.eval) (by simp [hl]) lj;intro K Q hK;unfold Oper.wp;rw[ZU m9 (hC.wc f _ r hr _ _),il];refine Calls.mono gj λ e w' ⟨u,ju,jr,aj,u9⟩ => ?_
 subst ju;obtain ⟨nh,ik⟩:=grow hm jr;refine hK u ⟨m.ν,m.own,w'⟩ rfl nh ik ?_;have jq : ∀ b,b<w'.heap.size->safe m.w.heap.size (safe B S m true) ⟨λ_ _=>none,AH.emp,w'⟩ false b->safe B S ⟨m.ν,m.own,w'⟩ true b:=λ b hb zq=>by
  rcases zq with ⟨h1,h2⟩|⟨h1,_⟩|⟨h1,_⟩
  ·exact ik.Bl true b h2 h1
  ·refine .inr (.inl ⟨Nat.le_trans hm.size h1,λ s t ko hg => ?_⟩)
   obtain ⟨b',n6⟩:=Option.isSome_iff_exists.1 ko;obtain ⟨_,arr,e,hh⟩:=hm.ge ⟨b',n6⟩ hg;have:=(Array.getElem?_eq_some_iff.1 hh).1
   omega
  ·cases h1
 by_cases lu:JH r
 ·rw[eP lu]
  rcases cA aj u9 with qj|⟨cs,vs,rfl,_⟩
  ·rcases qj with ku|⟨cs,vs,rfl,rfl,iz,hh⟩
   ·have e1:Aa r=VQ r/\UA r:=by cases ku<;>exact ⟨rfl,lu⟩
    rw[show BU.valOf (.val (Aa r)) m.own=Aa r from rfl,e1.1];exact .ca (.one (.rd (ku.Ae jq u9 e1.2)))
   ·unfold A7 at u9
    refine .ca (.agg (cs.map VQ) vs ⟨by simpa using iz,λ k c' v' x7 nk => ?_⟩);rw[List.getElem?_map]at x7;cases lq:cs[k]? with
    | none=>simp [lq]at x7
    | some c0 =>
     simp [lq]at x7;subst x7;exact .rd ((hh k c0 v' lq nk).Ae jq (K6 u9 k c0 lq) (lu c0 (zM lq)))
  ·exact lu.elim
 ·rw[eN lu]
  have hd:=Ll.resolve_left lu;have gl : ∀ {r:AV} {v:Value},DA w' (safe m.w.heap.size (safe B S m true) ⟨λ_ _=>none,AH.emp,w'⟩) r v->A7 r->CA B S ⟨m.ν,m.own,w'⟩ (IB r) v:=λ{r v} qj u9=>by
   rcases qj with ku|⟨cs,vs,rfl,rfl,iz,hh⟩
   ·have e1:IB r=G4 r:=by cases ku<;>rfl
    rw[e1];exact .one (.rd (ku.Af jq u9))
   ·unfold A7 at u9
    rw[show IB (.agg cs) = .agg (LQ cs) from rfl,eK];refine .agg (cs.map G4) vs ⟨by simpa using iz,λ k c' v' x7 nk => ?_⟩;rw[List.getElem?_map]at x7;cases lq:cs[k]? with
    | none=>simp [lq]at x7
    | some c0 =>
     simp [lq]at x7;subst x7;exact .rd ((hh k c0 v' lq nk).Af jq (K6 u9 k c0 lq))
  rcases cA aj u9 with qj|⟨cs,vs,rfl,rfl,iz,hh⟩
  ·have e1:KN r=IB r:=by
    rcases qj with ku|⟨cs,vs,rfl,_⟩
    ·cases ku<;>rfl
    ·rfl
   rw[show BU.valOf (.val (KN r)) m.own=KN r from rfl,e1];exact .ca (gl qj u9)
  ·unfold A7 at u9
   rw[show BU.valOf (.val (KN (.g9 cs))) m.own = .g9 (cs.map IB) from rfl];refine .g9 (cs.map IB) vs (by simpa using iz) λ k c' v' x7 nk => ?_
   rw[List.getElem?_map]at x7;cases lq:cs[k]? with
   | none=>simp [lq]at x7
   | some c0 =>
    simp [lq]at x7;subst x7;exact gl (hh k c0 v' lq nk) (K6 u9 k c0 lq)
end
end Go.g6
namespace Go.g6
open Go.RowKit
section
variable {B:Nat} {S:Nat->Prop} {w0:World} {m:M}
variable {P:Program} {num:Nat->Nat} {o:Oper} {a:Act} {ρ:AP->AV} {C:Cl} {b9:List Nat}
theorem Acc (hm:BP B S w0 m) (hs:CP B S m ρ a.eval) {mx:Bool} {q9:List AP} (h:BI P num o.op (.mm mx q9)=true) {v r:AV} {l:List AV} (hx:q9.map ρ=v::l) (hv:KQ mx v l=some r):CU B S w0 P o a m (.val r):=by
 by_cases hi : ∃ k n,v = .int k n
 ·exact Ya hm hs h hx hv hi
 ·cases l with
  | cons u q =>
   simp only[KQ]at hv;exfalso;cases v<;>first|(exact hi ⟨_,_,rfl⟩)|(simp [O1]at hv)
  | nil =>
   simp only[KQ,Option.some.injEq]at hv;subst hv;obtain ⟨xs,ts,m9,he⟩:=qI h;cases q9 with
   | nil=>simp at hx
   | cons y yr =>
    simp only[List.map_cons,List.cons.injEq,List.map_eq_nil_iff]at hx;obtain ⟨rfl,rfl⟩:=hx;obtain ⟨xl⟩:=xs;cases xl with
    | nil=>simp [ED]at he
    | cons x xr =>
     simp only[ED,Bool.and_eq_true]at he;cases xr with
     | cons=>simp [ED]at he
     | nil =>
      refine EL hm (u:=a.eval x) ?_ (hs x y he.1);cases mx<;>simp [execOp,m9,resolve,invoke,builtin,Builtin.min_,Builtin.max_]
theorem pP (o:AH) (l:List Nat) (s t:Nat) (b:D7) (h:(o.l9 l).get s t=some b):o.get s t=some b:=by
 induction l with
 | nil=>exact h
 | cons x r ih =>
  unfold AH.get AH.l9 at h;by_cases hs:s=x
  ·simp [hs]at h
  ·simp only[if_neg hs]at h
   exact ih h
theorem AeJ {o:AH} {l:List Nat} {s t i j n:Nat} {cs:List AV} (h:(o.l9 l).kb s t i j n=some cs):o.kb s t i j n=some cs:=by
 unfold AH.kb at *;cases hg:(o.l9 l).get s t with
 | none=>simp [hg]at h
 | some b =>
  rw[pP o l s t b hg];simpa [hg] using h
theorem Xe {o:AH} {l:List Nat} {v:AV} {es:List (List AV)} (h:EM (o.l9 l) v=some es):EM o v=some es:=by
 cases v with
 | dm v=>cases v<;>exact h
 | row s t z off len =>
  simp only[EM]at h ⊢;cases hg:(o.l9 l).get s t with
  | none=>simp [hg]at h
  | some b =>
   rw[pP o l s t b hg];simpa [hg] using h
 | _=>exact h
theorem KO {α β:Type} {f g:α->Option β} (Ph : ∀ x y,f x=some y->g x=some y) : ∀ {l:List α} {l':List β},l.mapM f=some l'->l.mapM g=some l'
 | [],l',h=>by simpa using h
 | x::r,l',h=>by
  simp only[List.mapM_cons,Option.bind_eq_bind,Option.pure_def]at h ⊢;cases hx:f x with
  | none=>simp [hx]at h
  | some y =>
   cases hr:r.mapM f with
   | none=>simp [hx,hr]at h
   | some r' =>
    simp [hx,hr]at h;simp [Ph x y hx,KO Ph hr,h]
theorem hZ (o:AH) (l:List Nat) (b:Bool) : ∀ (d:Nat) (c c':AV),snap (o.l9 l) b d c=some c'->snap o b d c=some c'
 | 0,c,c',h=>by cases c<;>simp_all [snap]
 | d+1,c,c',h=>by
  cases c<;>first|(simp_all [snap];done)|skip
  rename_i s t z off len;simp only[snap]at h ⊢;cases he:EM (o.l9 l) (.row s t z off len) with
  | none=>simp [he]at h
  | some es =>
   simp only[he]at h;rw[Xe he];simp only[Option.map_eq_some_iff]at h ⊢;obtain ⟨es',h1,h2⟩:=h;exact ⟨es',KO (λ x y hx=>KO (hZ o l b d) hx) h1,h2⟩
theorem uW (o:AH) (l:List Nat) (b:Bool) (c c':AV) (h:j5 (o.l9 l) b c=some c'):j5 o b c=some c':=by
 cases c<;>first|exact hZ o l b 6 _ _ h|skip
 simp only[j5,Option.map_eq_some_iff]at h ⊢;obtain ⟨cs,h1,h2⟩:=h;exact ⟨cs,KO (hZ o l b 6) h1,h2⟩
theorem Ag6 (o:AH) (l:List Nat) (b:Bool) (c c':AV) (h:bd (o.l9 l) b c=some c'):bd o b c=some c':=by
 rcases Classical.em (c = .nil) with rfl|hc
 ·exact h
 ·have e : ∀ o:AH,bd o b c=j5 o b c:=λ o=>by cases c<;>first|rfl|exact (hc rfl).elim
  rw[e]at h ⊢;exact uW o l b _ _ h
theorem AeV {o:AH} {l:List Nat} {b:Bool} {xs vs:List AV} (h:xs.mapM (bd (o.l9 l) b)=some vs):xs.mapM (bd o b)=some vs:=KO (Ag6 o l b) h
theorem AeT {o:AH} {l:List Nat} {b:Bool} {xs vs:List AV} (h:xs.mapM (j5 (o.l9 l) b)=some vs):xs.mapM (j5 o b)=some vs:=KO (uW o l b) h
theorem Ahm {own n0:AH} {s t i j:Nat} {vs:List AV} (h:own.lf s t i j vs=some n0):own.put s (n0 s)=n0:=by
 unfold AH.lf at h;cases hg:own.get s t with
 | none=>simp [hg]at h
 | some b =>
  simp only[hg]at h;cases he:b.es[i]? with
  | none=>simp [he]at h
  | some cs =>
   simp only[he]at h;split at h
   ·obtain rfl:=Option.some.inj h
    rw[AH.k8]
   ·cases h
theorem Xc (hC:GX P num C) (hm:BP B S w0 m) (hs:CP B S m ρ a.eval) {Dj:DP} (k6:BI P num o.op Dj=true) {E:BU} (h:g7 C b9 ρ m.own Dj=some E):CU B S w0 P o a m E:=by
 cases Dj with
 | q6 x=>simp only[g7,Option.some.injEq]at h;subst h;exact Yb hm hs k6
 | ak s z=>simp only[g7,Option.some.injEq]at h;subst h;exact Yi hm k6
 | pick c x y =>
  simp only[g7]at h;split at h
  ·rename_i hc;simp only[Option.some.injEq]at h;subst h;exact mL hm hs k6 hc
  ·rename_i hc;simp only[Option.some.injEq]at h;subst h;exact mL hm hs k6 hc
  ·cases h
 | bin f x y =>
  simp only[g7]at h;split at h
  ·rename_i k n k' n' hx hy
   simp only[Option.map_eq_some_iff]at h;obtain ⟨v,hv,rfl⟩:=h;exact Va hm hs k6 hx hy hv
  ·cases h
 | beq ne x y =>
  simp only[g7]at h;split at h
  ·rename_i b b' hx hy
   simp only[Option.some.injEq]at h;subst h;exact Uz hm hs k6 hx hy
  ·cases h
 | un f x =>
  simp only[g7,Option.map_eq_some_iff]at h;obtain ⟨v,hv,rfl⟩:=h;exact Yh hm hs k6 hv
 | conv k x =>
  simp only[g7]at h;split at h
  ·rename_i k' n hx
   simp only[Option.some.injEq]at h;subst h;exact Vm hm hs k6 hx
  ·cases h
 | box s x =>
  simp only[g7]at h;split at h
  ·rename_i cs gk
   simp only[Option.some.injEq]at h;subst h;exact Vb hm hs k6 gk
  ·cases h
 | alloc s z=>simp only[g7,Option.some.injEq]at h;subst h;exact Uv hm k6
 | build z ps =>
  simp only[g7,Option.map_eq_some_iff]at h;obtain ⟨cs,gk,rfl⟩:=h;exact Vd hm hs k6 gk
 | c7 s a9 ps =>
  simp only[g7]at h;split at h
  ·rename_i es jv
   split at h
   ·rename_i hz
    simp only[Option.some.injEq]at h;subst h;exact Vc hm hs k6 jv hz
   ·cases h
  ·cases h
 | bn x off =>
  simp only[g7]at h;split at h
  ·rename_i s t i j hx
   simp only[Option.some.injEq]at h;subst h;exact Ue hm hs k6 hx
  ·rename_i cs hx
   simp only[Option.some.injEq]at h;subst h;exact Ud hm hs k6 hx
  ·cases h
 | qf x off n agg =>
  simp only[g7]at h;split at h
  ·rename_i cs hx
   split at h
   ·rename_i ds hp
    simp only[Option.map_eq_some_iff]at h;obtain ⟨v,hv,rfl⟩:=h;exact Uf hm hs k6 hx hp hv
   ·cases h
  ·cases h
 | aq arr a9 x i =>
  simp only[g7]at h;split at h
  ·rename_i k n hi
   split at h
   ·rename_i len s t i' j hx
    split at h
    ·rename_i hn
     simp only[Option.some.injEq]at h;subst h;exact Ug hm hs k6 hi hx hn.1 hn.2
    ·cases h
   ·rename_i len cs hx
    split at h
    ·rename_i hn
     simp only[Option.some.injEq]at h;subst h;exact Uh hm hs k6 hi hx hn.1 hn.2
    ·cases h
   ·rename_i s t z off len hx
    split at h
    ·rename_i hn
     simp only[Option.some.injEq]at h;subst h;exact Ui hm hs k6 hi hx hn.1 hn.2.1 hn.2.2
    ·cases h
   ·rename_i l es hx
    split at h
    ·rename_i h0
     split at h
     ·rename_i cs gk
      split at h
      ·rename_i hz
       simp only[Option.some.injEq]at h;subst h;exact Uj hm hs k6 hi hx h0 gk hz
      ·cases h
     ·cases h
    ·cases h
   ·cases h
  ·cases h
 | ld agg n x =>
  simp only[g7]at h;split at h
  ·rename_i s t i j hx
   split at h
   ·rename_i cs gk
    simp only[Option.map_eq_some_iff]at h;obtain ⟨v,hv,rfl⟩:=h;exact Uk hm hs k6 hx (AeJ gk) hv
   ·cases h
  ·rename_i cs hx
   split at h
   ·rename_i ds hp
    simp only[Option.map_eq_some_iff]at h;obtain ⟨v,hv,rfl⟩:=h;exact mK hm hs k6 hx hp hv
   ·cases h
  ·cases h
 | ya agg n x =>
  simp only[g7]at h;split at h
  ·rename_i cs hx
   split at h
   ·rename_i ds hp
    simp only[Option.map_eq_some_iff]at h;obtain ⟨v,hv,rfl⟩:=h;exact mK hm hs (show BI P num _ (.ld agg n x)=true from k6) hx hp hv
   ·cases h
  ·cases h
 | st n x v =>
  simp only[g7]at h;split at h
  ·rename_i s t i j vs hx jb
   split at h
   ·rename_i hn
    simp only[Option.map_eq_some_iff]at h;obtain ⟨n0,ho,rfl⟩:=h;exact mP hm hs k6 hx jb hn ho
   ·cases h
  ·cases h
 | mk s a9 bytes zero l c =>
  simp only[g7]at h;split at h
  ·rename_i kl a' kc b' hl hc
   split at h
   ·rename_i hn
    simp only[Option.some.injEq]at h;subst h;exact Um hm hs k6 hl hc hn.1 hn.2.1 hn.2.2.1 hn.2.2.2.1 hn.2.2.2.2
   ·cases h
  ·cases h
 | jg a9 x lo hi =>
  simp only[g7]at h;have Ol : ∀ (d:Nat) (y:Option AP) (q:Nat),(match y with|none=>some d|some o=>match ρ o with | .int _ n=>if 0<=n/\n<=d then some n.toNat else none|_=>none)=some q -> ∃ n:Int,HC ρ d y=some n/\0<=n/\n<=d/\q=n.toNat:=λ d y q hq=>by
   cases y with
   | none=>simp only[Option.some.injEq]at hq;subst hq;exact ⟨d,rfl,by omega,by omega,by simp⟩
   | some y =>
    simp only at hq;cases hy:ρ y with
    | int k n =>
     simp only[hy]at hq;split at hq
     ·rename_i hn
      simp only[Option.some.injEq]at hq;subst hq;exact ⟨n,by simp [HC,hy],hn.1,hn.2,rfl⟩
     ·cases hq
    | _=>simp [hy]at hq
  have Ex : ∀ (y:Option AP) (q:Nat),(match y with|none=>some 0|some o=>match ρ o with | .int _ n=>if 0<=n then some n.toNat else none|_=>none)=some q -> ∃ n:Int,HC ρ 0 y=some n/\0<=n/\q=n.toNat:=λ y q hq=>by
   cases y with
   | none=>simp only[Option.some.injEq]at hq;subst hq;exact ⟨0,rfl,by omega,by simp⟩
   | some y =>
    simp only at hq;cases hy:ρ y with
    | int k n =>
     simp only[hy]at hq;split at hq
     ·rename_i hn
      simp only[Option.some.injEq]at hq;subst hq;exact ⟨n,by simp [HC,hy],hn,rfl⟩
     ·cases hq
    | _=>simp [hy]at hq
  have Ey : ∀ (y:Option AP) (q:Nat),(match y with|none=>some 0|some o=>match ρ o with | .int _ n=>if n=0 then some 0 else none|_=>none)=some q->HC ρ 0 y=some 0:=λ y q hq=>by
   cases y with
   | none=>rfl
   | some y =>
    simp only at hq;cases hy:ρ y with
    | int k n =>
     simp only[hy]at hq;split at hq
     ·rename_i hn
      subst hn;simp [HC,hy]
     ·cases hq
    | _=>simp [hy]at hq
  split at h
  ·rename_i l es hx
   split at h
   ·rename_i q1 q2 h1 h2
    split at h
    ·rename_i hq
     simp only[Option.some.injEq]at h;subst h;obtain ⟨n1,b1,c1,rfl⟩:=Ex _ _ h1;obtain ⟨n2,b2,c2,c3,rfl⟩:=Ol _ _ _ h2;exact Yg hm hs k6 hx b1 b2 c1 (by omega) c3 hq.2
    ·cases h
   ·cases h
  ·rename_i hx
   split at h
   ·rename_i q1 q2 h1 h2
    simp only[Option.some.injEq]at h;subst h;exact Ye hm hs k6 hx (Ey _ _ h1) (Ey _ _ h2)
   ·cases h
  ·rename_i s t z off len hx
   split at h
   ·rename_i q1 q2 h1 h2
    split at h
    ·rename_i hq
     simp only[Option.some.injEq]at h;subst h;obtain ⟨n1,b1,c1,rfl⟩:=Ex _ _ h1;obtain ⟨n2,b2,c2,c3,rfl⟩:=Ol _ _ _ h2;exact Yf hm hs k6 hx b1 b2 c1 (by omega) c3 hq.2
    ·cases h
   ·cases h
  ·cases h
 | ext x i =>
  simp only[g7]at h;split at h
  ·rename_i vs hx
   simp only[Option.map_eq_some_iff]at h;obtain ⟨v,hv,rfl⟩:=h;exact Vn hm hs k6 hx hv
  ·cases h
 | len x =>
  simp only[g7]at h;split at h
  ·rename_i n hn
   simp only[Option.some.injEq]at h;subst h;exact Ul hm hs k6 hn
  ·cases h
 | mm mx xs =>
  simp only[g7]at h;split at h
  ·cases h
  ·rename_i v r hx
   simp only[Option.map_eq_some_iff]at h;obtain ⟨q,hq,rfl⟩:=h;exact Acc hm hs k6 hx hq
 | app s a9 bytes x y =>
  simp only[g7]at h;split at h
  ·rename_i ys xu
   split at h
   ·rename_i hz
    split at h
    ·rename_i s' t z len hx
     split at h
     ·rename_i b hb
      split at h
      ·rename_i hn
       obtain ⟨n1,rfl,n3,n4,n5⟩:=hn;simp only[Option.some.injEq]at h;subst h;exact Ux hm hs k6 xu hz hx hb n1 n3 n4 n5
      ·cases h
     ·cases h
    ·rename_i hx
     split at h
     ·rename_i hn
      simp only[Option.some.injEq]at h;subst h;exact Uw hm hs k6 xu hz hx hn.1 hn.2
     ·cases h
    ·cases h
   ·cases h
  ·cases h
 | call f xs =>
  simp only[g7]at h;split at h
  ·rename_i vs jb
   simp only[Option.map_eq_some_iff]at h;obtain ⟨r,hr,rfl⟩:=h;exact Ve hC hm hs k6 (AeT jb) hr
  ·cases h
 | c9 f xs =>
  simp only[g7]at h;split at h
  ·simp only[Option.map_eq_some_iff]at h
   obtain ⟨r,hr,rfl⟩:=h;exact cK hC hm hs k6 ((XN hr).2 m.own λ_ _=>rfl)
  ·simp only[Option.map_eq_some_iff]at h
   obtain ⟨r,hr,rfl⟩:=h;exact cK hC hm hs k6 hr
 | ug ne x =>
  simp only[g7]at h;split at h
  ·rename_i hx
   simp only[Option.some.injEq]at h;subst h;exact X9 hm hs k6 (b:=true) λ v hv=>by rw[hx]at hv;exact ⟨none,0,0,PM hv,rfl⟩
  ·rename_i b hx
   simp only[Option.some.injEq]at h;subst h;exact X9 hm hs k6 (b:=b) λ v hv=>by
    rw[hx]at hv;obtain ⟨ad,c,h1,h2⟩:=lS hv;exact ⟨ad,0,c,h1,h2⟩
  ·rename_i hx
   simp only[Option.some.injEq]at h;subst h;exact X9 hm hs k6 (b:=false) λ v hv=>by rw[hx]at hv;exact Vx hv
  ·rename_i hx
   simp only[Option.some.injEq]at h;subst h;exact X9 hm hs k6 (b:=false) λ v hv=>by rw[hx]at hv;exact Vw hv
  ·cases h
 | bad =>
  have h:(none:Option BU)=some E:=h;cases h
 | nm x =>
  simp only[g7]at h;split at h
  ·rename_i hx
   simp only[Option.some.injEq]at h;subst h;exact Yc hm hs k6 hx
  ·cases h
 | gd x =>
  simp only[g7]at h;split at h
  ·rename_i hx
   simp only[Option.some.injEq]at h;subst h;exact Vl hm hs k6 hx
  ·cases h
 | di s f xs =>
  simp only[g7,Option.map_eq_some_iff]at h;obtain ⟨p,hp,rfl⟩:=h;exact cK hC hm hs (Aen k6) (XQ.1 hp m.own rfl)
 | oy s a9 bytes x y =>
  simp only[g7]at h;split at h
  ·rename_i k n hx hy
   split at h
   ·rename_i hn
    simp only[Option.some.injEq]at h;subst h;exact Uy hm hs k6 hx hy hn.1 hn.2.1 hn.2.2
   ·cases h
  ·cases h
 | iw tb x =>
  simp only[g7]at h;split at h
  ·rename_i k n hx
   split at h
   ·rename_i h0
    split at h
    ·rename_i v hv
     simp only[Option.some.injEq]at h;subst h;exact Yd hm hs k6 hx h0 hv
    ·cases h
   ·cases h
  ·cases h
 | rj p f xs =>
  simp only[g7,Option.map_eq_some_iff]at h;obtain ⟨cs,gk,rfl⟩:=h;rw[hC.num];exact Xz hm hs k6 gk
 | n7 f xs =>
  simp only[g7]at h;split at h
  ·rename_i hq
   split at h
   ·rename_i r hr
    split at h
    ·rename_i lu
     simp only[Option.some.injEq]at h;subst h;exact Vh hC hm hs k6 hq hr lu
    ·cases h
   ·cases h
  ·cases h
 | z0 s f xs =>
  simp only[g7]at h;split at h
  ·rename_i vs jb
   simp only[Option.map_eq_some_iff]at h;obtain ⟨⟨z,es⟩,hr,rfl⟩:=h;exact Vj hC hm hs k6 (AeV jb) hr
  ·cases h
 | ou s n x v =>
  simp only[g7]at h;split at h
  ·rename_i s' t i j vs hx jb
   split at h
   ·rename_i hn
    obtain ⟨rfl,hn⟩:=hn;simp only[Option.map_eq_some_iff]at h;obtain ⟨n0,ho,rfl⟩:=h;have:=mP hm hs (AeE k6) hx jb hn ho
    intro K Q hK;refine this K Q λ u m' h1 h2 h3 h4=>hK u m' ?_ h2 h3 h4
    rw[h1];exact (Ahm ho).symm
   ·cases h
  ·cases h
 | q8 x xs =>
  simp only[g7]at h;split at h
  ·rename_i p f g cs hx
   split at h
   ·rename_i hg
    rw[hC.num]at hg;subst hg;split at h
    ·split at h
     ·rename_i vs jb
      simp only[Option.map_eq_some_iff]at h;obtain ⟨r,hr,rfl⟩:=h;exact Vg hC hm hs k6 hx jb hr
     ·cases h
    ·simp only[Option.map_eq_some_iff]at h
     obtain ⟨r,hr,rfl⟩:=h;exact Vk hC hm hs k6 hx hr
    ·split at h
     ·rename_i vs jb
      simp only[Option.map_eq_some_iff]at h;obtain ⟨r,hr,rfl⟩:=h;exact Vf hC hm hs k6 hx jb hr
     ·cases h
   ·cases h
  ·cases h
end
end Go.g6

namespace Go.g6
open Go.RowKit
def EO (T:Nat->AV):AP->AV
 | .t n=>T n
 | .c v=>v
def JF (T:Nat->AV) (d:Option Nat) (v:AV):Nat->AV:=λ j=>if d=some j then v else T j
def LF (T:Nat->AV):Option (Nat × Bool)->Option Bool
 | none=>some true
 | some (g,want)=>match T g with
  | .bool b=>some (b == want)
  | .g9 []=>some false
  | _=>none
theorem nU (st:St):st.ev=EO (j4 st.tm):=by funext x;cases x<;>rfl
theorem Zs (st:St) (g:Option (Nat × Bool)):EY st g=LF (j4 st.tm) g:=rfl
theorem nC (st:St) (d:Option Nat) (v:AV):j4 (st.dst d v).tm=JF (j4 st.tm) d v:=by
 cases d with
 | none=>funext j;simp [St.dst,JF]
 | some d =>
  funext j
  simp only[St.dst,JF,WN];by_cases h:j=d
  ·simp [h]
  ·simp [h,Ne.symm h]
theorem Sk (st:St) (d:Option Nat) (E:BU):j4 (st.app d E).tm=JF (j4 st.tm) d (E.valOf st.own):=by
 cases E<;>simp only[St.app,BU.valOf]<;>exact nC st d _
theorem jj (st:St) (d:Option Nat) (v:AV):(st.dst d v).own=st.own:=by cases d<;>rfl
theorem Sj (st:St) (d:Option Nat) (E:BU):(st.app d E).own=E.m8 st.own:=by
 cases E with
 | val v=>simp only[St.app,BU.m8];exact jj st d v
 | _=>rfl
section
variable {B:Nat} {S:Nat->Prop} {w0:World} {m0:M} {N:Nat}
variable {P:Program} {num:Nat->Nat} {C:Cl} {Q:Exit->Act->World->Prop}
structure FP (B:Nat) (S:Nat->Prop) (w0:World) (m0:M) (N:Nat) (T:Nat->AV) (m:M) (a:Act):Prop where
 mem:BP B S w0 m
 ext:DM B S m0 m
 tm : ∀ i,CV B S m (T i) (a.tmps.getD i undef)
 size:a.tmps.size=N
 defers:a.defers=[]
theorem FP.put {T:Nat->AV} {m m':M} {a:Act} (h:FP B S w0 m0 N T m a) (d:Option Nat) (hd : ∀ k,d=some k->k<N) {v:AV} {u:Value} (hm:BP B S w0 m') (he:DM B S m m') (hc:CV B S m' v u):FP B S w0 m0 N (JF T d v) m' (a.put d u):=by
 refine ⟨hm,h.ext.trans he,λ i => ?_,?_,?_⟩
 ·cases d with
  | none=>simpa [JF,Act.put] using he.cv (h.tm i)
  | some k =>
   have hk:k<a.tmps.size:=by rw[h.size];exact hd k rfl
   by_cases lz:i=k
   ·subst lz
    simp only[JF,if_true,Act.put];simpa [Array.getD,hk] using hc
   ·have n9 : ¬ (some k=some i):=λ e=>lz (by simpa using e.symm)
    simp only[JF,if_neg n9,Act.put];have:(a.tmps.setIfInBounds k u).getD i undef=a.tmps.getD i undef:=by
     simp [Array.getElem?_setIfInBounds_ne (Ne.symm lz)]
    rw[this];exact he.cv (h.tm i)
 ·cases d<;>simp [Act.put,h.size]
 ·cases d<;>simpa [Act.put] using h.defers
theorem FP.says {T:Nat->AV} {m:M} {a:Act} (h:FP B S w0 m0 N T m a):CP B S m (EO T) a.eval:=Agc (λ_=>rfl) (λ_=>rfl) h.tm
theorem AhD {T:Nat->AV} {m:M} {a:Act} (h:FP B S w0 m0 N T m a) {ops:Array Oper} {o:Oper} {g':Option (Nat × Bool)} (hg:VU ops o.guard g'=true) {g:Bool} (ua:LF T g'=some g):Region.wanted o (yielded ops a.tmps)=g:=by
 unfold Region.wanted;cases Md:o.guard with
 | none =>
  cases g' with
  | none=>simp [LF]at ua;simp [ua]
  | some _=>simp [VU,Md]at hg
 | some jw =>
  obtain ⟨j,want⟩:=jw;cases g' with
  | none=>simp [VU,Md]at hg
  | some tw =>
   obtain ⟨t,Rm⟩:=tw;simp only[VU,Md,Bool.and_eq_true,beq_iff_eq]at hg;obtain ⟨rfl,hg⟩:=hg;split at hg
   ·rename_i oj Ja
    have Ld:oj.dst=some t:=by simpa using hg
    have aj:=h.tm t;simp only[LF]at ua;unfold yielded;simp only[Ja,Option.bind_some,Ld];split at ua
    ·rename_i b hb
     rw[hb]at aj;have hv:=Q3 aj;have s9:a.tmps[t]? = some (.bool b):=by
      cases ht:a.tmps[t]? with
      | none=>simp [ht,undef]at hv
      | some x=>simp [ht]at hv;rw[hv]
     simp only[s9];simp at ua;rw[<-ua];cases b<;>cases want<;>rfl
    ·rename_i hb
     rw[hb]at aj;obtain ⟨vs,hv,hl,_⟩:=cB aj;have:vs=[]:=List.eq_nil_of_length_eq_zero (by simpa using hl.symm)
     subst this;simp at ua;subst ua;cases ht:a.tmps[t]? with
     | none=>rfl
     | some x =>
      simp [ht]at hv;subst hv;rfl
    ·cases ua
   ·cases hg
theorem wK (hC:GX P num C) {ops:Array Oper} {i:Nat} {o:Oper} {ai:AI} (hi:ops[i]? = some o) (k6:ZB P num N ops o ai=true) {T:Nat->AV} {m:M} {a:Act} (hf:FP B S w0 m0 N T m a) {g:Bool} (hg:LF T ai.guard=some g) {E:BU}
  (hE:g=true->g7 C ai.b9 (EO T) m.own ai.op=some E) {K:Act->World->Prop} (hK : ∀ m' a',m'.own=(if g then E.m8 m.own else m.own)->FP B S w0 m0 N (JF T ai.dst (if g then E.valOf m.own else .g9 [])) m' a'->K a' m'.w):wpOp P ops Q i K a m.w:=by
 simp only[ZB,Bool.and_eq_true,beq_iff_eq]at k6;obtain ⟨⟨⟨h1,h2⟩,h3⟩,h4⟩:=k6;have hd : ∀ k,o.dst=some k->k<N:=λ k hk=>by
  rw[h1]at hk;rw[hk]at h2;simpa using h2
 unfold wpOp;simp only[hi,AhD hf h3 hg];cases g with
 | true =>
  simp only[if_true];refine .inl (Xc hC hf.mem hf.says h4 (hE rfl) K Q λ u m' l8 nh ik aj => ?_);refine hK m' _ (by simpa using l8) ?_;rw[<-h1];exact hf.put o.dst hd nh ik aj
 | false =>
  simp only[Bool.false_eq_true,if_false];refine hK m _ (by simp) ?_;rw[<-h1];exact hf.put o.dst hd hf.mem (DM.refl m) rL
theorem vG {o:AI} {st j8:St} (h:CN C o st=some j8) : ∃ g E,LF (j4 st.tm) o.guard=some g/\(g=true->g7 C o.b9 (EO (j4 st.tm)) st.own o.op=some E)/\j4 j8.tm=JF (j4 st.tm) o.dst (if g then E.valOf st.own else .g9 [])/\j8.own=(if g then E.m8 st.own else st.own):=by
 unfold CN at h;rw[Zs]at h;cases hg:LF (j4 st.tm) o.guard with
 | none=>simp [hg]at h
 | some g =>
  cases g with
  | true =>
   simp only[hg,Option.map_eq_some_iff]at h;obtain ⟨E,hE,rfl⟩:=h;rw[nU]at hE;exact ⟨true,E,rfl,λ_=>hE,Sk st o.dst E,Sj st o.dst E⟩
  | false =>
   simp only[hg,Option.some.injEq]at h;subst h;exact ⟨false,.val .any,rfl,λ h=>(by cases h),nC st o.dst _,jj st o.dst _⟩
theorem VV {ops:Array Oper} : ∀ {os:List Oper} {l:List AI},O4 P num N ops os l=true->os.length=l.length /\ ∀ (i:Nat) (o:Oper) (x:AI),os[i]? = some o->l[i]? = some x->ZB P num N ops o x=true
 | [],[],_=>⟨rfl,λ i o x h=>by simp at h⟩
 | o::r,x::l,h=>by
  simp only[O4,Bool.and_eq_true]at h;obtain ⟨h1,h2⟩:=VV h.2;refine ⟨by simp [h1],λ i o' x' ho hx => ?_⟩;cases i with
  | zero=>simp at ho hx;subst ho hx;exact h.1
  | succ i=>exact h2 i o' x' (by simpa using ho) (by simpa using hx)
 | [],_::_,h=>by simp [O4]at h
 | _::_,[],h=>by simp [O4]at h
theorem wL (hC:GX P num C) {ops:Array Oper} {l:List AI} (k6:O4 P num N ops ops.toList l=true) : ∀ (n k:Nat) (st j8:St) (m:M) (a:Act),n+k=ops.size->C4 C (l.drop k) st=some j8->m.own=st.own->FP B S w0 m0 N (j4 st.tm) m a ->
  (∀ m' a',m'.own=j8.own->FP B S w0 m0 N (j4 j8.tm) m' a'->Q .normal a' m'.w)->wpOps P ops Q (List.range' k n) a m.w
 | 0,k,st,j8,m,a,hk,hs,l8,hf,hQ=>by
  have hl:=(VV k6).1;simp at hl;rw[List.drop_eq_nil_of_le (by omega)]at hs;simp only[C4,Option.some.injEq]at hs;subst hs;simpa [wpOps] using hQ m a l8 hf
 | n+1,k,st,j8,m,a,hk,hs,l8,hf,hQ=>by
  obtain ⟨hl,hg⟩:=VV k6;simp at hl;have pe:k<l.length:=by omega
  have Pp:k<ops.size:=by omega
  rw[List.drop_eq_getElem_cons pe]at hs;simp only[C4]at hs;cases m4:CN C l[k] st with
  | none=>simp [m4]at hs
  | some BA =>
   simp only[m4]at hs;obtain ⟨g,E,h1,h2,h3,h4⟩:=vG m4;rw[List.range'_succ,wpOps_cons];have hoi:ops[k]? = some ops[k]:=Array.getElem?_eq_getElem Pp;refine wK hC hoi (hg k ops[k] l[k] (by simp [Pp]) (zE pe)) hf h1 (λ fy=>by rw[l8];exact h2 fy) λ m' a' ma od => ?_
   refine wL hC k6 n (k+1) BA j8 m' a' (by omega) hs ?_ ?_ hQ
   ·rw[ma,l8,h4]
   ·rw[l8]at od
    rw[h3];exact od
end
end Go.g6

namespace Go.g6
open Go.RowKit
section
variable {T T':Nat->AV} {C:Cl} {b9:List Nat} {own:AH}
theorem DL {x:AP} (h : ∀ t∈C0 x,T t=T' t):EO T x=EO T' x:=by
 cases x with
 | t n=>exact h n (by simp [C0])
 | c v=>rfl
theorem RR {xs:List AP} (h : ∀ t∈xs.flatMap C0,T t=T' t):xs.map (EO T)=xs.map (EO T') :=
 List.map_congr_left λ x hx=>DL λ t ht=>h t (List.mem_flatMap.2 ⟨x,hx,ht⟩)
theorem sQ {x:Option AP} (h : ∀ t∈gH x,T t=T' t) {y:AP} (hy:x=some y):EO T y=EO T' y:=by
 subst hy;exact DL h
theorem Yv {op:DP} (h : ∀ t∈HL op,T t=T' t):g7 C b9 (EO T) own op=g7 C b9 (EO T') own op:=by
 cases op with
 | build z ps =>
  simp only[g7];congr 2;refine List.map_congr_left λ p hp => ?_
  rw[DL (x:=p.2.2) λ t ht=>h t (by simp only[HL];exact List.mem_flatMap.2 ⟨p,hp,ht⟩)]
 | c7 s a9 ps =>
  have hm:ps.mapM (λ x=>cellsOf (EO T x))=ps.mapM (λ x=>cellsOf (EO T' x)):=by
   have e : ∀ l:List AP,(∀ x∈l,EO T x=EO T' x)->l.mapM (λ x=>cellsOf (EO T x))=l.mapM (λ x=>cellsOf (EO T' x)):=by
    intro l;induction l with
    | nil=>intro _;rfl
    | cons x r ih=>intro hl;simp only[List.mapM_cons];rw[hl x (by simp),ih λ y hy=>hl y (by simp [hy])]
   exact e ps λ x hx=>DL λ t ht=>h t (by simp only[HL];exact List.mem_flatMap.2 ⟨x,hx,ht⟩)
  simp only[g7,hm]
 | mm mx xs=>simp only[g7];rw[RR (xs:=xs) h]
 | call f xs=>simp only[g7];rw[RR (xs:=xs) h]
 | c9 f xs=>simp only[g7];rw[RR (xs:=xs) h]
 | ug ne x=>simp only[g7];rw[DL (x:=x) h]
 | bad=>rfl
 | nm x=>simp only[g7];rw[DL (x:=x) h]
 | gd x=>simp only[g7];rw[DL (x:=x) h]
 | oy s a9 bytes x y =>
  simp only[HL,List.mem_append]at h;simp only[g7];rw[DL (x:=x) λ t ht=>h t (.inl ht),DL (x:=y) λ t ht=>h t (.inr ht)]
 | iw tb x=>simp only[g7];rw[DL (x:=x) h]
 | rj p f xs =>
  have e : ∀ l:List AP,(∀ x∈l,EO T x=EO T' x)->l.mapM (λ x=>GS (EO T x))=l.mapM (λ x=>GS (EO T' x)):=by
   intro l;induction l with
   | nil=>intro _;rfl
   | cons x r ih=>intro hl;simp only[List.mapM_cons];rw[hl x (by simp),ih λ y hy=>hl y (by simp [hy])]
  simp only[g7];rw[e xs λ x hx=>DL λ t ht=>h t (by simp only[HL];exact List.mem_flatMap.2 ⟨x,hx,ht⟩)]
 | n7 f xs=>simp only[g7];rw[RR (xs:=xs) h]
 | z0 s f xs=>simp only[g7];rw[RR (xs:=xs) h]
 | di s f xs=>simp only[g7];rw[RR (xs:=xs) h]
 | ou s n x v =>
  simp only[HL,List.mem_append]at h;simp only[g7];rw[DL (x:=x) λ t ht=>h t (.inl ht),DL (x:=v) λ t ht=>h t (.inr ht)]
 | q8 x xs =>
  simp only[HL,List.mem_append]at h;simp only[g7];rw[DL (x:=x) λ t ht=>h t (.inl ht),RR (xs:=xs) λ t ht=>h t (.inr ht)]
 | jg a9 x lo hi =>
  simp only[HL,List.mem_append]at h;have hx:EO T x=EO T' x:=DL λ t ht=>h t (.inl (.inl ht))
  have pg : ∀ y,lo=some y->EO T y=EO T' y:=λ y hy=>sQ (λ t ht=>h t (.inl (.inr ht))) hy
  have Iu : ∀ y,hi=some y->EO T y=EO T' y:=λ y hy=>sQ (λ t ht=>h t (.inr ht)) hy
  simp only[g7,hx];cases lo with
  | none=>cases hi with
   | none=>rfl
   | some y=>simp only[Iu y rfl]
  | some z=>cases hi with
   | none=>simp only[pg z rfl]
   | some y=>simp only[pg z rfl,Iu y rfl]
 | ak=>rfl
 | alloc=>rfl
 | q6 x=>simp only[g7];rw[DL (x:=x) h]
 | un f x=>simp only[g7];rw[DL (x:=x) h]
 | conv k x=>simp only[g7];rw[DL (x:=x) h]
 | box s x=>simp only[g7];rw[DL (x:=x) h]
 | bn x off=>simp only[g7];rw[DL (x:=x) h]
 | qf x off n agg=>simp only[g7];rw[DL (x:=x) h]
 | ld agg n x=>simp only[g7];rw[DL (x:=x) h]
 | ya agg n x=>simp only[g7];rw[DL (x:=x) h]
 | ext x i=>simp only[g7];rw[DL (x:=x) h]
 | len x=>simp only[g7];rw[DL (x:=x) h]
 | pick c x y =>
  simp only[HL,List.mem_append]at h;simp only[g7];rw[DL (x:=c) λ t ht=>h t (.inl (.inl ht)),DL (x:=x) λ t ht=>h t (.inl (.inr ht)),DL (x:=y) λ t ht=>h t (.inr ht)]
 | bin f x y =>
  simp only[HL,List.mem_append]at h;simp only[g7];rw[DL (x:=x) λ t ht=>h t (.inl ht),DL (x:=y) λ t ht=>h t (.inr ht)]
 | beq ne x y =>
  simp only[HL,List.mem_append]at h;simp only[g7];rw[DL (x:=x) λ t ht=>h t (.inl ht),DL (x:=y) λ t ht=>h t (.inr ht)]
 | aq arr a9 x i =>
  simp only[HL,List.mem_append]at h;simp only[g7];rw[DL (x:=x) λ t ht=>h t (.inl ht),DL (x:=i) λ t ht=>h t (.inr ht)]
 | st n x v =>
  simp only[HL,List.mem_append]at h;simp only[g7];rw[DL (x:=x) λ t ht=>h t (.inl ht),DL (x:=v) λ t ht=>h t (.inr ht)]
 | mk s a9 bytes z l c =>
  simp only[HL,List.mem_append]at h;simp only[g7];rw[DL (x:=l) λ t ht=>h t (.inl ht),DL (x:=c) λ t ht=>h t (.inr ht)]
 | app s a9 bytes x y =>
  simp only[HL,List.mem_append]at h;simp only[g7];rw[DL (x:=x) λ t ht=>h t (.inl ht),DL (x:=y) λ t ht=>h t (.inr ht)]
theorem qA (o:AH) (l:List Nat) (s:Nat):o.l9 l s=if s∈l then ⟨0,λ_=>none⟩ else o s:=by
 induction l with
 | nil=>simp [AH.l9]
 | cons x r ih =>
  simp only[AH.l9,List.mem_cons];by_cases h:s=x
  ·simp [h]
  ·rw[if_neg h,ih]
   simp [h]
theorem Zf {o o':AH} {l:List Nat} (h : ∀ s,s ∉ l->o s=o' s):o.l9 l=o'.l9 l:=by
 funext s
 rw[qA,qA];split
 ·rfl
 ·rename_i hs;exact h s hs
end
section
variable {ops:Array Oper}
def inner (acc:Array Nat) (o:Oper):Nat:=o.after.foldl (λ s e=>if Region.binds .any e then s ||| 2^e.on ||| acc.getD e.on 0 else s) 0
theorem Aeb (acc:Array Nat) (o:Oper) (j:Nat) (h:(inner acc o).testBit j=true) : ∃ e∈o.after,Region.binds .any e=true/\(e.on=j\/(acc.getD e.on 0).testBit j=true):=by
 unfold inner at h;rw[<-Array.foldl_toList]at h;have key : ∀ (l:List Edge) (s:Nat),(l.foldl (λ s e=>if Region.binds .any e then s ||| 2^e.on ||| acc.getD e.on 0 else s) s).testBit j=true->s.testBit j=true \/ ∃ e∈l,Region.binds .any e=true/\(e.on=j\/(acc.getD e.on 0).testBit j=true):=by
  intro l;induction l with
  | nil=>intro s hs;exact .inl hs
  | cons e r ih =>
   intro s hs;simp only[List.foldl_cons]at hs;rcases ih _ hs with h1|⟨e',ju,h2⟩
   ·by_cases hb:Region.binds .any e=true
    ·simp only[hb,if_true,Nat.testBit_or,Bool.or_eq_true,Nat.testBit_two_pow,decide_eq_true_eq]at h1
     rcases h1 with (h1|h1)|h1
     ·exact .inl h1
     ·exact .inr ⟨e,by simp,hb,.inl h1⟩
     ·exact .inr ⟨e,by simp,hb,.inr h1⟩
    ·simp only[hb,Bool.false_eq_true,if_false]at h1
     exact .inl h1
   ·exact .inr ⟨e',by simp [ju],h2⟩
 rcases key _ _ h with h|⟨e,he,h⟩
 ·simp at h
 ·exact ⟨e,by simpa using he,h⟩
theorem Sn (i j:Nat) (h:((Region.before ops).getD i 0).testBit j=true) : ∃ o,ops[i]? = some o /\ ∃ e∈o.after,Region.binds .any e=true/\(e.on=j\/(e.on<i/\((Region.before ops).getD e.on 0).testBit j=true)):=by
 have key : ∀ (rest:List Oper) (done:List Oper) (acc:Array Nat),acc.size=done.length ->
   (∀ i j,(acc.getD i 0).testBit j=true -> ∃ o,done[i]? = some o /\ ∃ e∈o.after,Region.binds .any e=true/\(e.on=j\/(e.on<i/\(acc.getD e.on 0).testBit j=true))) ->
   ∀ i j,((rest.foldl (λ acc o=>acc.push (inner acc o)) acc).getD i 0).testBit j=true -> ∃ o,(done++rest)[i]? = some o /\ ∃ e∈o.after,Region.binds .any e=true/\(e.on=j\/(e.on<i/\((rest.foldl (λ acc o=>acc.push (inner acc o)) acc).getD e.on 0).testBit j=true)):=by
  intro rest;induction rest with
  | nil=>intro done acc hs hinv i j hj;simpa using hinv i j hj
  | cons o r ih =>
   intro done acc hs hinv i j hj;simp only[List.foldl_cons]at hj ⊢;have:=ih (done++[o]) (acc.push (inner acc o)) (by simp [hs]) (λ i j ux => ?_) i j hj
   ·simpa using this
   ·have s9 : ∀ k,k<acc.size->(acc.push (inner acc o)).getD k 0=acc.getD k 0:=λ k hk=>by
     simp [Array.getD,hk,Nat.lt_succ_of_lt hk,Array.getElem_push_lt hk]
    by_cases hi:i<acc.size
    ·rw[s9 i hi]at ux
     obtain ⟨o',zk,e,he,hb,df⟩:=hinv i j ux;refine ⟨o',by rw[List.getElem?_append_left (by omega)];exact zk,e,he,hb,df.imp id λ⟨h1,h2⟩=>⟨h1,by rw[s9 e.on (by omega)];exact h2⟩⟩
    ·have Lr:i=acc.size:=by
      rcases Nat.lt_or_ge i (acc.push (inner acc o)).size with h1|h1
      ·simp at h1;omega
      ·have:(acc.push (inner acc o)).getD i 0=0:=by simp [Array.getD];intro h2;simp at h1;omega
       rw[this]at ux;simp at ux
     subst Lr;have ml:(acc.push (inner acc o)).getD acc.size 0=inner acc o:=by simp [Array.getD]
     rw[ml]at ux;obtain ⟨e,he,hb,df⟩:=Aeb acc o j ux;refine ⟨o,by rw[hs];simp,e,he,hb,df.imp id λ h2 => ?_⟩;have o7:e.on<acc.size:=by
      rcases Nat.lt_or_ge e.on acc.size with h3|h3
      ·exact h3
      ·have:acc.getD e.on 0=0:=by simp [Array.getD];omega
       rw[this]at h2;simp at h2
     exact ⟨o7,by rw[s9 e.on o7];exact h2⟩
 have hb:Region.before ops=ops.toList.foldl (λ acc o=>acc.push (inner acc o)) #[]:=by
  unfold Region.before;rw[<-Array.foldl_toList];rfl
 rw[hb]at h ⊢;have:=key ops.toList [] #[] rfl (λ i j ux=>by simp at ux) i j h
 simpa using this
def SN (ops:Array Oper) (X:Nat->Bool):Prop := ∀ j o,X j=true->ops[j]? = some o -> ∀ e∈o.after,Region.binds .any e=true->X e.on=true
theorem Oi {X:Nat->Bool} (hX:SN ops X) : ∀ (i:Nat),(∀ o,ops[i]? = some o -> ∀ e∈o.after,Region.binds .any e=true->X e.on=true) -> ∀ j,((Region.before ops).getD i 0).testBit j=true->X j=true:=by
 intro i;induction i using Nat.strongRecOn with
 | ind i ih =>
  intro hi j hj;obtain ⟨o,ho,e,he,hb,df⟩:=Sn i j hj;have hx:=hi o ho e he hb;rcases df with h|⟨o7,h⟩
  ·rw[<-h];exact hx
  ·exact ih e.on o7 (λ o' zk e' ju n6=>hX e.on o' hx zk e' ju n6) j h
theorem Afp {X:Nat->Bool} (hX:SN ops X) {i j:Nat} (hi : ∀ o,ops[i]? = some o -> ∀ e∈o.after,Region.binds .any e=true->X e.on=true) (o7:j<i) (h:IE (Region.before ops) i j=true):X j=true:=by
 unfold IE at h;rw[Nat.max_eq_left (by omega),Nat.min_eq_right (by omega)]at h;exact Oi hX i hi j h
theorem sS {X:Nat->Bool} (hX:SN ops X) {i j:Nat} (hj:X j=true) (o7:i<j) (h:IE (Region.before ops) i j=true):X i=true:=by
 unfold IE at h;rw[Nat.max_eq_right (by omega),Nat.min_eq_left (by omega)]at h;exact Oi hX j (λ o ho e he hb=>hX j o hj ho e he hb) i h
end
section
variable {C:Cl}
abbrev D:=(Nat->AV) × AH
structure DR where
 d:Option Nat
 g:Bool
 E:BU
 v:AV
def DR.own (r:DR) (o:AH):AH:=if r.g then r.E.m8 o else o
def DR.act (r:DR) (x:D):D:=(JF x.1 r.d r.v,r.own x.2)
structure OJ (C:Cl) (x:AI) (r:DR) (s s':St):Prop where
 d:r.d=x.dst
 g:LF (j4 s.tm) x.guard=some r.g
 E:r.g=true->g7 C x.b9 (EO (j4 s.tm)) s.own x.op=some r.E
 v:r.v=(if r.g then r.E.valOf s.own else .g9 [])
 act:(j4 s'.tm,s'.own)=r.act (j4 s.tm,s.own)
theorem trace : ∀ {l:List AI} {st j8:St},C4 C l st=some j8 -> ∃ (σ:Nat->St) (rs:List DR),σ 0=st/\σ l.length=j8/\rs.length=l.length /\ ∀ (k:Nat) (x:AI) (r:DR),l[k]? = some x->rs[k]? = some r->OJ C x r (σ k) (σ (k+1))
 | [],st,j8,h=>by
  simp only[C4,Option.some.injEq]at h;subst h;exact ⟨λ_=>st,[],rfl,rfl,rfl,λ k x r hx=>by simp at hx⟩
 | o::q,st,j8,h=>by
  simp only[C4]at h;cases hs:CN C o st with
  | none=>simp [hs]at h
  | some BA =>
   simp only[hs]at h;obtain ⟨σ,rs,h0,h1,hl,h2⟩:=trace h;obtain ⟨g,E,e1,e2,e3,e4⟩:=vG hs;refine ⟨λ k=>match k with|0=>st|k+1=>σ k,⟨o.dst,g,E,if g then E.valOf st.own else .g9 []⟩::rs,rfl,h1,by simp [hl],λ k x r hx hr => ?_⟩;cases k with
   | zero =>
    simp at hx hr;subst hx hr;refine ⟨rfl,e1,e2,rfl,?_⟩;show (j4 (σ 0).tm,(σ 0).own)=_;rw[h0,e3,e4];rfl
   | succ k=>exact h2 k x r (by simpa using hx) (by simpa using hr)
def DX (X:Nat->Bool):List DR->Nat->D->D
 | [],_,x=>x
 | r::rs,k,x=>DX X rs (k+1) (if X k then r.act x else x)
theorem dM (X:Nat->Bool) : ∀ (l l':List DR) (k:Nat) (x:D),DX X (l++l') k x=DX X l' (k+l.length) (DX X l k x)
 | [],l',k,x=>by simp [DX]
 | r::rs,l',k,x=>by
  simp only[List.cons_append,DX,List.length_cons];rw[dM X rs l' (k+1)];congr 1;omega
theorem pL {X Y:Nat->Bool} {t:Nat} : ∀ (l:List DR) (k:Nat) (x y:D),x.1 t=y.1 t->(∀ i r,l[i]? = some r->r.d=some t->X (k+i)=Y (k+i))->(DX X l k x).1 t=(DX Y l k y).1 t
 | [],k,x,y,h,_=>h
 | r::rs,k,x,y,h,wm=>by
  simp only[DX];refine pL rs (k+1) _ _ ?_ λ i r' hr hd=>by
   have:=wm (i+1) r' (by simpa using hr) hd
   rw[show k+1+i=k+(i+1) by omega];exact this
  by_cases hd:r.d=some t
  ·have hx:X k=Y k:=by simpa using wm 0 r rfl hd
   rw[hx];cases Y k
   ·simpa using h
   ·simp [DR.act,JF,hd]
  ·have e1 : ∀ z:D,(r.act z).1 t=z.1 t:=λ z=>by simp [DR.act,JF,hd]
   cases X k<;>cases Y k<;>simp [e1,h]
theorem Afu (E:BU) (s:Nat) (o o':AH) (h:o s=o' s):E.m8 o s=E.m8 o' s:=by
 cases E with
 | val v=>exact h
 | new s' b v =>
  simp only[BU.m8,AH.put];by_cases hs:s=s'
  ·subst hs;simp [h]
  ·simp [hs,h]
 | vh s' b v =>
  simp only[BU.m8,AH.put];by_cases hs:s=s'
  ·subst hs;simp [h]
  ·simp [hs,h]
 | dp v o2=>rfl
 | Bo s' v o2 =>
  simp only[BU.m8,AH.put];by_cases hs:s=s'
  ·subst hs;simp [h]
  ·simp [hs]
 | uo s' x v =>
  simp only[BU.m8,AH.put];by_cases hs:s=s'
  ·simp [hs]
  ·simp [hs,h]
 | v7 s' x =>
  simp only[BU.m8,AH.put];by_cases hs:s=s'
  ·simp [hs]
  ·simp [hs,h]
theorem pK {X Y:Nat->Bool} {s:Nat} : ∀ (l:List DR) (k:Nat) (x y:D),x.2 s=y.2 s->(∀ i r,l[i]? = some r->X (k+i)=Y (k+i) \/ ∀ o,r.own o s=o s)->(DX X l k x).2 s=(DX Y l k y).2 s
 | [],k,x,y,h,_=>h
 | r::rs,k,x,y,h,wm=>by
  simp only[DX];refine pK rs (k+1) _ _ ?_ λ i r' hr=>by
   have:=wm (i+1) r' (by simpa using hr)
   rw[show k+1+i=k+(i+1) by omega];exact this
  rcases wm 0 r rfl with hx|hx
  ·simp only[Nat.add_zero]at hx
   rw[hx];cases Y k
   ·simpa using h
   ·simp only[if_true,DR.act,DR.own]
    cases r.g
    ·simpa using h
    ·simpa using Afu r.E s _ _ h
  ·have e1 : ∀ z:D,(r.act z).2 s=z.2 s:=λ z=>hx z.2
   cases X k<;>cases Y k<;>simp [e1,h]
theorem dN {X:Nat->Bool} (q:DR) : ∀ (l:List DR) (k:Nat) (x:D),(∀ i r,l[i]? = some r->X (k+i)=true -> ∀ z,r.act (q.act z)=q.act (r.act z))->DX X l k (q.act x)=q.act (DX X l k x)
 | [],k,x,_=>rfl
 | r::rs,k,x,h=>by
  simp only[DX];have fj : ∀ i r',rs[i]? = some r'->X (k+1+i)=true -> ∀ z,r'.act (q.act z)=q.act (r'.act z):=λ i r' hr hX=>h (i+1) r' (by simpa using hr) (by rw[show k+(i+1)=k+1+i by omega];exact hX)
  cases hk:X k
  ·simp only[Bool.false_eq_true,if_false]
   exact dN q rs (k+1) x fj
  ·simp only[if_true]
   rw[h 0 r rfl (by simpa using hk)];exact dN q rs (k+1) _ fj
theorem YO {X Y:Nat->Bool} : ∀ (l:List DR) (k:Nat) (x:D),(∀ i,i<l.length->X (k+i)=Y (k+i))->DX X l k x=DX Y l k x
 | [],_,_,_=>rfl
 | r::rs,k,x,h=>by
  simp only[DX];rw[show X k=Y k by simpa using h 0 (by simp)];exact YO rs (k+1) _ λ i hi=>by
   have:=h (i+1) (by simpa using hi)
   rw[show k+1+i=k+(i+1) by omega];exact this
theorem pJ {X X':Nat->Bool} {l:List DR} {i:Nat} {q:DR} (hq:l[i]? = some q) (nc:X i=false) (yj : ∀ j,X' j=(decide (j=i)||X j)) (x:D) (Fz : ∀ j r,l[j]? = some r->i<j->X j=true -> ∀ z,r.act (q.act z)=q.act (r.act z)) :
  DX X' l 0 x=q.act (DX X l 0 x):=by
 have au:i<l.length:=(zS hq).1;have hli:l=l.take i++(q::l.drop (i+1)):=by
  have:l.drop i=q::l.drop (i+1):=by
   rw[List.drop_eq_getElem_cons au];congr 1;have:=(zS hq).2
   exact this
  rw[<-this,List.take_append_drop]
 have ct:(l.take i).length=i:=by simp;omega
 rw[hli,dM,dM,ct,Nat.zero_add];simp only[DX,nc,Bool.false_eq_true,if_false];rw[show X' i=true by rw[yj];simp];simp only[if_true];rw[YO (X:=X') (Y:=X) (l.take i) 0 x (λ j hj=>by rw[yj];simp;omega)];rw[YO (X:=X') (Y:=X) (l.drop (i+1)) (i+1) _ (λ j hj=>by rw[yj];simp;omega)];refine dN q _ _ _ λ j r hr Kh => ?_
 rw[List.getElem?_drop]at hr;exact Fz (i+1+j) r hr (by omega) Kh
end
end Go.g6

namespace Go.g6
open Go.RowKit
section
variable {C:Cl} {b9:List Nat} {ρ:AP->AV}
theorem nH {op:DP} (o o':AH) (ht:FN op=false) (hr:OE op=true->o.l9 b9=o'.l9 b9) (m4 : ∀ s,D6 op=some s->o s=o' s):g7 C b9 ρ o op=g7 C b9 ρ o' op:=by
 cases op with
 | ou s n x v =>
  have h1:=m4 s rfl;have h2 : ∀ t i j vs,(o.lf s t i j vs).map (λ q=>BU.v7 s (q s))=(o'.lf s t i j vs).map (λ q=>BU.v7 s (q s)):=λ t i j vs=>by
   have hg:o.get s t=o'.get s t:=by unfold AH.get;rw[h1]
   unfold AH.lf;rw[hg];cases o'.get s t with
   | none=>rfl
   | some b =>
    simp only;cases b.es[i]? with
    | none=>rfl
    | some cs =>
     simp only;split
     ·simp only[Option.map_some,AH.k8,h1]
     ·rfl
  simp only[g7,h2]
 | ld agg n x=>have:=hr rfl;simp only[g7,this]
 | call f xs=>have:=hr rfl;simp only[g7,this]
 | z0 s f xs=>have:=hr rfl;simp only[g7,this]
 | di s f xs=>have h1:=m4 s rfl;simp only[g7,h1]
 | st=>simp [FN]at ht
 | app=>simp [FN]at ht
 | c9=>simp [FN]at ht
 | q8=>simp [FN]at ht
 | _=>rfl
theorem cP {op:DP} {o:AH} {E:BU} (h:g7 C b9 ρ o op=some E) {s:Nat} (hs:D6 op=some s):(∃ b v,E = .new s b v\/E = .vh s b v) \/ ∃ x v,E = .v7 s x\/E = .uo s x v:=by
 cases op with
 | ou s' n x v =>
  simp only[D6,Option.some.injEq]at hs;subst hs;simp only[g7]at h;split at h
  ·split at h
   ·simp only[Option.map_eq_some_iff]at h
    obtain ⟨q,_,rfl⟩:=h;exact .inr ⟨_,.any,.inl rfl⟩
   ·cases h
  ·cases h
 | z0 s' f xs =>
  simp only[D6,Option.some.injEq]at hs;subst hs;simp only[g7]at h;split at h
  ·simp only[Option.map_eq_some_iff]at h
   obtain ⟨r,_,rfl⟩:=h;exact .inl ⟨_,_,.inl rfl⟩
  ·cases h
 | oy s' a9 bytes x y =>
  simp only[D6,Option.some.injEq]at hs;subst hs;simp only[g7]at h;split at h
  ·split at h
   ·simp only[Option.some.injEq]at h;exact .inl ⟨_,_,.inl h.symm⟩
   ·cases h
  ·cases h
 | di s' f xs =>
  simp only[D6,Option.some.injEq]at hs;subst hs;simp only[g7,Option.map_eq_some_iff]at h;obtain ⟨p,_,rfl⟩:=h;exact .inr ⟨_,_,.inr rfl⟩
 | ak s' z =>
  simp only[D6,Option.some.injEq]at hs;subst hs;simp only[g7,Option.some.injEq]at h;exact .inl ⟨_,_,.inr h.symm⟩
 | box s' x =>
  simp only[D6,Option.some.injEq]at hs;subst hs;simp only[g7]at h;split at h
  ·simp only[Option.some.injEq]at h;exact .inl ⟨_,_,.inl h.symm⟩
  ·cases h
 | alloc s' z =>
  simp only[D6,Option.some.injEq]at hs;subst hs;simp only[g7,Option.some.injEq]at h;exact .inl ⟨_,_,.inl h.symm⟩
 | c7 s' a9 ps =>
  simp only[D6,Option.some.injEq]at hs;subst hs;simp only[g7]at h;split at h
  ·split at h
   ·simp only[Option.some.injEq]at h;exact .inl ⟨_,_,.inl h.symm⟩
   ·cases h
  ·cases h
 | mk s' a9 bytes z l c =>
  simp only[D6,Option.some.injEq]at hs;subst hs;simp only[g7]at h;split at h
  ·split at h
   ·simp only[Option.some.injEq]at h;exact .inl ⟨_,_,.inl h.symm⟩
   ·cases h
  ·cases h
 | _=>simp [D6]at hs
theorem eV {α:Type} {x:Option α} {f:α->AV} {E:BU} (h:x.map (λ y=>BU.val (f y))=some E) : ∃ v,E = .val v:=by
 cases x with
 | none=>cases h
 | some y=>simp only[Option.map_some,Option.some.injEq]at h;exact ⟨_,h.symm⟩
theorem cQ {op:DP} {o:AH} {E:BU} (h:g7 C b9 ρ o op=some E) (ht:FN op=false) (hs:D6 op=none) : ∃ v,E = .val v:=by
 cases op<;>first|(simp [FN]at ht;done)|(simp [D6]at hs;done)|skip
 all_goals simp only[g7]at h
 all_goals
  first
   | (simp only[Option.some.injEq]at h;exact ⟨_,h.symm⟩)
   | exact eV (f:=id) h
   | skip
 all_goals (repeat' split at h)
 all_goals
  first
   | (cases h;done)
   | (simp only[Option.some.injEq]at h;exact ⟨_,h.symm⟩)
   | exact eV (f:=id) h
   | exact eV (f:=AV.agg) h
   | (simp only[Option.map_eq_some_iff]at h;obtain ⟨cs,_,rfl⟩:=h;exact ⟨_,rfl⟩)
theorem RW {x:AI} {r:DR} {s s':St} (h:OJ C x r s s') (ht:FN x.op=false) (hs:D6 x.op=none) (o:AH):r.own o=o:=by
 unfold DR.own;cases hg:r.g with
 | false=>rfl
 | true =>
  obtain ⟨v,hv⟩:=cQ (h.E hg) ht hs;simp [hv,BU.m8]
theorem ZN {x:AI} {r:DR} {s s':St} (h:OJ C x r s s') {q:Nat} (hs:D6 x.op=some q):(∀ o,r.own o=o) \/ ∃ F:CB->CB,∀ o:AH,r.own o=o.put q (F (o q)):=by
 unfold DR.own;cases hg:r.g with
 | false=>exact .inl λ_=>rfl
 | true =>
  rcases cP (h.E hg) hs with ⟨b,v,hv|hv⟩|⟨x,v,hv|hv⟩
  ·exact .inr ⟨λ q=>q.new b,λ o=>by simp [hv,BU.m8]⟩
  ·exact .inr ⟨λ q=>q.new b,λ o=>by simp [hv,BU.m8]⟩
  ·exact .inr ⟨λ_=>x,λ o=>by simp [hv,BU.m8]⟩
  ·exact .inr ⟨λ_=>x,λ o=>by simp [hv,BU.m8]⟩
theorem gM {x:AI} {r:DR} {s s':St} (h:OJ C x r s s') {q:Nat} (hs:D6 x.op=some q) {p:Nat} (hp:p≠q) (o:AH):r.own o p=o p:=by
 rcases ZN h hs with h1|⟨b,h1⟩
 ·rw[h1]
 ·rw[h1];simp [AH.put,hp]
theorem qM {x:AI} {s:Nat} (h:N9 x=some s) : ∃ f xs,x.op = .c9 f xs/\x.b9=[s]:=by
 unfold N9 at h;split at h
 ·rename_i f xs s' h1 h2
  obtain rfl:=Option.some.inj h;exact ⟨f,xs,h1,h2⟩
 ·cases h
theorem YT {x y:AI} (h:TE x y=true) : ∃ s,N9 x=some s/\D6 y.op=some s/\FN y.op=false/\OE y.op=false:=by
 unfold TE at h;split at h
 ·rename_i s hs
  simp only[Bool.and_eq_true,beq_iff_eq,Bool.not_eq_true']at h;exact ⟨s,hs,h.1,h.2.1,h.2.2⟩
 ·cases h
theorem Sw {f:Nat} {vs:List AV} {s:Nat} {o o':AH} (h : ∀ q,q≠s->o q=o' q):N1 C f vs s o=N1 C f vs s o':=by
 have e:(λ p:AV × AH => ∀ u:AH,(∀ q,q≠s->u q=o q)->C.fp f vs u=some (p.1,p.2.put s (u s)))=λ p:AV × AH => ∀ u:AH,(∀ q,q≠s->u q=o' q)->C.fp f vs u=some (p.1,p.2.put s (u s)):=by
  funext p
  refine propext ⟨λ g u hu=>g u λ q hq=>by rw[hu q hq,h q hq],λ g u hu=>g u λ q hq=>by rw[hu q hq,h q hq]⟩
 cases h1:N1 C f vs s o with
 | some p =>
  have h2:=XN h1;exact (XM h2.1 λ u hu=>h2.2 u λ q hq=>by rw[hu q hq,h q hq]).symm
 | none =>
  cases h3:N1 C f vs s o' with
  | none=>rfl
  | some p =>
   have h2:=XN h3;rw[XM h2.1 λ u hu=>h2.2 u λ q hq=>by rw[hu q hq,h q hq]]at h1;cases h1
theorem nG {x:AI} {s:Nat} (hk:N9 x=some s) {o:AH} {E:BU} (h:g7 C x.b9 ρ o x.op=some E) : ∃ v o',E = .Bo s v o':=by
 obtain ⟨f,xs,h1,h2⟩:=qM hk;rw[h1,h2]at h;simp only[g7,Option.map_eq_some_iff]at h;obtain ⟨p,_,rfl⟩:=h;exact ⟨_,_,rfl⟩
theorem tF {x:AI} {r:DR} {s s':St} (h:OJ C x r s s') {q:Nat} (hk:N9 x=some q):(∀ o,r.own o=o) \/ ∃ o':AH,∀ o:AH,r.own o=o'.put q (o q):=by
 unfold DR.own;cases hg:r.g with
 | false=>exact .inl λ_=>rfl
 | true =>
  obtain ⟨v,o',hv⟩:=nG hk (h.E hg);exact .inr ⟨o',λ o=>by simp [hv,BU.m8]⟩
theorem sR (b:Array Nat) (i j:Nat):IE b i j=IE b j i:=by unfold IE;rw[Nat.max_comm,Nat.min_comm]
theorem Q6 {ops:Array Oper} {l:List AI} (h:Q5 ops l=true) {i j:Nat} {x y:AI} (hx:l[i]? = some x) (hy:l[j]? = some y) (n9:i≠j) :
  (IE (Region.before ops) i j=true\/((∀ t,y.dst=some t->t ∉ TG x)/\(FN x.op=false\/KP y.op=false\/TE x y=true)/\(OE x.op=true -> ∀ s,D6 y.op=some s->s∈x.b9))) /\
  (IE (Region.before ops) i j=true \/ ∀ s s',D6 x.op=some s->D6 y.op=some s'->s≠s'):=by
 simp only[Q5,Bool.and_eq_true]at h;have h1:=h.1.1;rw[List.all_eq_true]at h1;have hxm:(x,i)∈l.zipIdx:=List.mem_zipIdx_iff_getElem?.2 hx;have hym:(y,j)∈l.zipIdx:=List.mem_zipIdx_iff_getElem?.2 hy;have h2:=h1 (x,i) hxm;simp only at h2;rw[List.all_eq_true]at h2;have h3:=h2 (y,j) hym;simp only[Bool.and_eq_true,Bool.or_eq_true,beq_iff_eq,n9,false_or]at h3;obtain ⟨h4,h5⟩:=h3;refine ⟨?_,h5.imp id λ h5 s s' hs qy => ?_⟩
 ·unfold sV at h4
  simp only[Bool.or_eq_true,beq_iff_eq,n9,false_or]at h4;refine h4.imp id λ h6 => ?_
  simp only[Bool.and_eq_true,Bool.or_eq_true,Bool.not_eq_true']at h6;obtain ⟨⟨h7,h8⟩,h9⟩:=h6;refine ⟨λ t ht => ?_,or_assoc.1 h8,λ hr s hs => ?_⟩
  ·rw[ht]at h7
   simpa using h7
  ·rw[hr,hs]at h9
   simpa using h9
 ·rw[hs,qy]at h5
  simpa using h5
structure WY (C:Cl) (ops:Array Oper) (l:List AI) (σ:Nat->St) (rs:List DR):Prop where
 ok:Q5 ops l=true
 len:rs.length=l.length
 fits : ∀ (k:Nat) (x:AI) (r:DR),l[k]? = some x->rs[k]? = some r->OJ C x r (σ k) (σ (k+1))
variable {ops:Array Oper} {l:List AI} {σ:Nat->St} {rs:List DR}
theorem dO {X:Nat->Bool} : ∀ (l:List DR) (k:Nat) (x:D),(∀ i,i<l.length->X (k+i)=false)->DX X l k x=x
 | [],_,_,_=>rfl
 | r::q,k,x,h=>by
  simp only[DX];rw[show X k=false by simpa using h 0 (by simp)];exact dO q (k+1) _ λ i hi=>by
   have:=h (i+1) (by simpa using hi)
   rw[show k+1+i=k+(i+1) by omega];exact this
def d0 (σ:Nat->St):D:=(j4 (σ 0).tm,(σ 0).own)
theorem cM (h:WY C ops l σ rs) : ∀ k,k<=l.length->DX (λ j=>decide (j<k)) rs 0 (d0 σ)=(j4 (σ k).tm,(σ k).own)
 | 0,_=>dO rs 0 _ λ i _=>by simp
 | k+1,hk=>by
  have pe:k<l.length:=by omega
  have hkr:k<rs.length:=by rw[h.len];exact pe
  have hr:rs[k]? = some rs[k]:=zE hkr;have hf:=h.fits k l[k] rs[k] (zE pe) hr;rw[pJ (X:=λ j=>decide (j<k)) (X':=λ j=>decide (j<k+1)) hr (by simp) (λ j=>by
   by_cases h1:j=k
   ·simp [h1]
   ·simp [h1];omega) _ (λ j r' _ o7 hX=>by simp at hX;omega),cM h k (by omega)]
  exact hf.act.symm
section
variable {X:Nat->Bool} {i:Nat} {x:AI} {r:DR}
theorem sT (hX:SN ops X) (nc:X i=false) (fo : ∀ o,ops[i]? = some o -> ∀ e∈o.after,Region.binds .any e=true->X e.on=true) {j:Nat} (n9:i≠j) (ho:IE (Region.before ops) i j=true):X j=decide (j<i):=by
 rcases Nat.lt_or_gt_of_ne n9 with o7|ua
 ·have:X j=false:=by
   cases hj:X j with
   | false=>rfl
   | true=>have:=sS hX hj o7 ho;rw[nc]at this;cases this
  rw[this];simp;omega
 ·rw[Afp hX fo ua ho];simp;omega
theorem Yp (h:WY C ops l σ rs) (hx:l[i]? = some x) (hr:rs[i]? = some r) (hX:SN ops X) (nc:X i=false) (fo : ∀ o,ops[i]? = some o -> ∀ e∈o.after,Region.binds .any e=true->X e.on=true) :
  LF (DX X rs 0 (d0 σ)).1 x.guard=some r.g/\(r.g=true->g7 C x.b9 (EO (DX X rs 0 (d0 σ)).1) (DX X rs 0 (d0 σ)).2 x.op=some r.E) /\
  (if r.g then r.E.valOf (DX X rs 0 (d0 σ)).2 else .g9 [])=r.v /\
  ∀ X':Nat->Bool,(∀ j,X' j=(decide (j=i)||X j))->DX X' rs 0 (d0 σ)=r.act (DX X rs 0 (d0 σ)):=by
 have au:i<l.length:=(zS hx).1;have hf:=h.fits i x r hx hr;have Be:=cM h i (by omega);generalize hT:DX X rs 0 (d0 σ)=TX;have fm : ∀ (j:Nat) (r':DR),rs[j]? = some r' -> ∃ y,l[j]? = some y/\OJ C y r' (σ j) (σ (j+1)):=λ j r' hj=>by
  have ew:j<l.length:=by rw[<-h.len];exact (zS hj).1
  exact ⟨l[j],zE ew,h.fits j _ _ (zE ew) hj⟩
 have Bc : ∀ t∈TG x,TX.1 t=j4 (σ i).tm t:=λ t ht=>by
  have:=pL (X:=X) (Y:=λ j=>decide (j<i)) (t:=t) rs 0 (d0 σ) (d0 σ) rfl (λ j r' hj hd=>by
   simp only[Nat.zero_add];by_cases n9:i=j
   ·subst n9;simp [nc]
   ·obtain ⟨y,hy,fx⟩:=fm j r' hj
    rcases (Q6 h.ok hx hy n9).1 with ho|⟨h1,_⟩
    ·exact sT hX nc fo n9 ho
    ·exact absurd ht (h1 t (by rw[<-fx.d];exact hd)))
  rw[hT,Be]at this;exact this
 have Ho : ∀ t∈HL x.op,TX.1 t=j4 (σ i).tm t:=λ t ht=>Bc t (by simp [TG,ht])
 have gu : ∀ s,(∀ (j:Nat) (y:AI) (r':DR),i≠j->l[j]? = some y->rs[j]? = some r'->IE (Region.before ops) i j=true \/ ∀ o,r'.own o s=o s)->TX.2 s=(σ i).own s:=λ s hs=>by
  have:=pK (X:=X) (Y:=λ j=>decide (j<i)) (s:=s) rs 0 (d0 σ) (d0 σ) rfl (λ j r' hj=>by
   simp only[Nat.zero_add];by_cases n9:i=j
   ·subst n9;left;simp [nc]
   ·obtain ⟨y,hy,fx⟩:=fm j r' hj
    rcases hs j y r' n9 hy hj with ho|ho
    ·exact .inl (sT hX nc fo n9 ho)
    ·exact .inr ho)
  rw[hT,Be]at this;exact this
 have oe : ∀ (j:Nat) (y:AI) (r':DR),l[j]? = some y->rs[j]? = some r'->KP y.op=false -> ∀ o,r'.own o=o:=λ j y r' hy hj hm o=>by
  simp only[KP,Bool.or_eq_false_iff]at hm;exact RW (h.fits j y r' hy hj) hm.1.1 (by simpa using hm.2) o
 have Hd : ∀ (j:Nat) (y:AI),i≠j->l[j]? = some y->FN y.op=true->KP x.op=true->IE (Region.before ops) i j=true\/TE y x=true:=λ j y n9 hy ht kr=>by
  rcases (Q6 h.ok hy hx (Ne.symm n9)).1 with ho|⟨_,h2,_⟩
  ·rw[sR];exact .inl ho
  ·rw[ht,kr]at h2
   simp only[Bool.true_eq_false,false_or]at h2;exact .inr h2
 have hg:LF TX.1 x.guard=some r.g:=by
  rw[<-hf.g];cases zd:x.guard with
  | none=>rfl
  | some gw =>
   obtain ⟨g,w⟩:=gw;simp only[LF];rw[Bc g (by simp [TG,zd])]
 have Bg:FN x.op=true -> ∀ s,N9 x≠some s->TX.2 s=(σ i).own s:=λ ht s Cu=>by
  refine gu s λ j y r' n9 hy hj => ?_
  cases hm:KP y.op with
  | false=>exact .inr λ o=>by rw[oe j y r' hy hj hm o]
  | true =>
   rcases (Q6 h.ok hx hy n9).1 with ho|⟨_,h2,_⟩
   ·exact .inl ho
   ·rw[ht,hm]at h2
    simp only[Bool.true_eq_false,false_or]at h2;obtain ⟨q,k1,k2,k3,_⟩:=YT h2;exact .inr λ o=>gM (h.fits j y r' hy hj) k2 (p:=s) (λ e=>Cu (by rw[e];exact k1)) o
 have xn:FN x.op=true->N9 x=none->TX.2=(σ i).own:=λ ht hn=>by
  funext s
  exact Bg ht s (by rw[hn];simp)
 have Hb:OE x.op=true->TX.2.l9 x.b9=(σ i).own.l9 x.b9:=λ ku=>by
  refine Zf λ s hs=>gu s λ j y r' n9 hy hj => ?_
  have kr:KP x.op=true:=by simp [KP,ku]
  cases ht:FN y.op with
  | true =>
   refine .inl ((Hd j y n9 hy ht kr).resolve_right λ hk => ?_);obtain ⟨_,_,_,_,k4⟩:=YT hk;rw[ku]at k4;cases k4
  | false =>
   cases nj:D6 y.op with
   | none=>exact .inr λ o=>by rw[RW (h.fits j y r' hy hj) ht nj o]
   | some q =>
    rcases (Q6 h.ok hx hy n9).1 with ho|⟨_,_,h3⟩
    ·exact .inl ho
    ·exact .inr λ o=>gM (h.fits j y r' hy hj) nj (p:=s) (λ e=>hs (by rw[e];exact h3 ku q nj)) o
 have Ba : ∀ s,D6 x.op=some s->TX.2 s=(σ i).own s:=λ s vf=>by
  have kr:KP x.op=true:=by simp [KP,vf]
  exact gu s λ j y r' n9 hy hj=>by
   cases ht:FN y.op with
   | true =>
    rcases Hd j y n9 hy ht kr with ho|hk
    ·exact .inl ho
    ·obtain ⟨q,k1,k2,_,_⟩:=YT hk
     obtain rfl:q=s:=Option.some.inj (k2.symm.trans vf);rcases tF (h.fits j y r' hy hj) k1 with g1|⟨o',g1⟩
     ·exact .inr λ o=>by rw[g1]
     ·exact .inr λ o=>by rw[g1];simp [AH.put]
   | false =>
    cases nj:D6 y.op with
    | none=>exact .inr λ o=>by rw[RW (h.fits j y r' hy hj) ht nj o]
    | some q =>
     rcases (Q6 h.ok hx hy n9).2 with ho|Dd
     ·exact .inl ho
     ·exact .inr λ o=>gM (h.fits j y r' hy hj) nj (Dd s q vf nj) o
 have Lh:r.g=true->g7 C x.b9 (EO TX.1) TX.2 x.op=some r.E:=λ fy=>by
  rw[Yv Ho,<-hf.E fy];cases ht:FN x.op with
  | true =>
   cases hk:N9 x with
   | none=>rw[xn ht hk]
   | some s =>
    obtain ⟨f,xs,k1,k2⟩:=qM hk;rw[k1,k2];simp only[g7];rw[Sw (o':=(σ i).own) λ q hq=>Bg ht q (by rw[hk];exact λ e=>hq (Option.some.inj e).symm)]
  | false=>exact nH _ _ ht Hb Ba
 have hval:(if r.g then r.E.valOf TX.2 else .g9 [])=r.v:=by
  rw[hf.v];cases Lp:r.g with
  | false=>rfl
  | true =>
   simp only[if_true];cases vf:D6 x.op with
   | none =>
    cases ht:FN x.op with
    | true =>
     cases hk:N9 x with
     | none=>rw[xn ht hk]
     | some s =>
      obtain ⟨v,o',hv⟩:=nG hk (hf.E Lp);rw[hv];rfl
    | false =>
     obtain ⟨v,hv⟩:=cQ (hf.E Lp) ht vf;rw[hv];rfl
   | some s =>
    have Dd:=Ba s vf;rcases cP (hf.E Lp) vf with ⟨b,v,hv|hv⟩|⟨x,v,hv|hv⟩<;>rw[hv]<;>simp only[BU.valOf,AH.j6,Dd]
 refine ⟨hg,Lh,hval,λ X' yj => ?_⟩;rw[<-hT];refine pJ hr nc yj _ λ j r' hj o7 Kh z => ?_
 obtain ⟨y,hy,fx⟩:=fm j r' hj;have n9:i≠j:=by omega
 have Mb : ¬ IE (Region.before ops) i j=true:=λ ho=>by
  have:=sS hX Kh o7 ho
  rw[nc]at this;cases this
 obtain ⟨Mf,Dz⟩:=Q6 h.ok hx hy n9;obtain ⟨zl,Eb⟩:=Q6 h.ok hy hx (Ne.symm n9);have hp:=Mf.resolve_left Mb;have hq:=zl.resolve_left (by rw[sR];exact Mb);unfold DR.act;refine Prod.ext ?_ ?_
 ·funext t
  simp only[JF];by_cases h1:r'.d=some t<;>by_cases h2:r.d=some t
  ·exact absurd (by rw[hf.d]at h2;simp [TG,h2]) (hp.1 t (by rw[<-fx.d];exact h1))
  ·simp [h1,h2]
  ·simp [h1,h2]
  ·simp [h1,h2]
 ·show r'.own (r.own z.2)=r.own (r'.own z.2)
  cases kr:KP x.op with
  | false=>rw[oe i x r hx hr kr,oe i x r hx hr kr]
  | true =>
   cases zj:KP y.op with
   | false=>rw[oe j y r' hy hj zj,oe j y r' hy hj zj]
   | true =>
    have Gn : ∀ {x y:AI} {r r':DR} {s1 s2 s3 s4:St},OJ C x r s1 s2->OJ C y r' s3 s4->TE x y=true -> ∀ o,r'.own (r.own o)=r.own (r'.own o):=λ hf fx hk o=>by
     obtain ⟨q,k1,k2,_,_⟩:=YT hk;rcases tF hf k1 with g1|⟨o',g1⟩
     ·rw[g1,g1]
     ·rcases ZN fx k2 with g2|⟨F,g2⟩
      ·rw[g2,g2]
      ·rw[g1,g2,g2,g1]
       funext p
       simp only[AH.put];split<;>rfl
    rcases hp.2.1 with Qd|h1|h1
    rotate_left
    ·rw[zj]at h1;cases h1
    ·exact Gn hf fx h1 _
    rcases hq.2.1 with Qe|h1|h1
    rotate_left
    ·rw[kr]at h1;cases h1
    ·exact (Gn fx hf h1 _).symm
    cases vf:D6 x.op with
    | none=>rw[RW hf Qd vf,RW hf Qd vf]
    | some s =>
     cases nj:D6 y.op with
     | none=>rw[RW fx Qe nj,RW fx Qe nj]
     | some s' =>
      have Dd:=(Dz.resolve_left Mb) s s' vf nj;rcases ZN hf vf with h1|⟨b,h1⟩
      ·rw[h1,h1]
      ·rcases ZN fx nj with h2|⟨b',h2⟩
       ·rw[h2,h2]
       ·rw[h1,h2,h2,h1]
        funext q
        simp only[AH.put];by_cases Mj:q=s<;>by_cases Cz:q=s'
        ·exact absurd (Mj.symm.trans Cz) Dd
        ·simp [Mj,Dd]
        ·simp [Cz,Ne.symm Dd]
        ·simp [Mj,Cz]
end
end
end Go.g6

namespace Go.g6
open Go.RowKit
section
variable {ops:Array Oper} {md:Region.Mode}
theorem Sr {e:Edge} (h:Region.binds .any e=true) (md:Region.Mode):Region.binds md e=true:=by
 unfold Region.binds at *;split at h<;>simp_all
theorem rC (ops:Array Oper) (md:Region.Mode) : ∀ (fuel t:Nat) (c6:Array Bool),c6.size=ops.size -> ∀ (k i:Nat),(Region.linearise.go md ops fuel t c6 [])[k]? = some i ->
  ∃ o,ops[i]? = some o /\ ∀ e∈o.after,Region.binds md e=true->c6.getD e.on false=true\/e.on∈(Region.linearise.go md ops fuel t c6 []).take k
 | 0,t,c6,hs,k,i,h=>by simp [Region.linearise.go]at h
 | fuel+1,t,c6,hs,k,i,h=>by
  have td:Region.linearise.go md ops (fuel+1) t c6 []=match (Region.ready md ops c6)[t%(Region.ready md ops c6).length]? with
   | some i=>i::Region.linearise.go md ops fuel (t/(Region.ready md ops c6).length) (c6.setIfInBounds i true) []
   | none=>[]:=by
   simp only[Region.linearise.go];change (match (Region.ready md ops c6)[t%(Region.ready md ops c6).length]? with
    | some i=>Region.linearise.go md ops fuel (t/(Region.ready md ops c6).length) (c6.setIfInBounds i true) [i]
    | none=>[].reverse)=_
   cases (Region.ready md ops c6)[t%(Region.ready md ops c6).length]? with
   | none=>rfl
   | some i=>simp only[];rw[linearise_go_acc];rfl
  rw[td]at h ⊢;cases hr:(Region.ready md ops c6)[t%(Region.ready md ops c6).length]? with
  | none=>rw[hr]at h;simp at h
  | some q =>
   rw[hr]at h;simp only at h ⊢;obtain ⟨_,oq,hoq,hq⟩:=mem_ready.1 (zM hr);cases k with
   | zero =>
    simp at h;subst h;exact ⟨oq,hoq,λ e he hb => .inl (hq e he hb)⟩
   | succ k =>
    simp at h;obtain ⟨o,ho,hh⟩:=rC ops md fuel _ _ (by simpa using hs) k i h;refine ⟨o,ho,λ e he hb => ?_⟩;rcases hh e he hb with h1|h1
    ·by_cases heq:e.on=q
     ·right;simp [heq]
     ·left
      rw[getD_set_ne false (Ne.symm heq)]at h1;exact h1
    ·right;simp [h1]
theorem dK {p:Nat->Bool} : ∀ (l:List Nat),(∃ i∈l,p i=false) -> ∃ k i,l[k]? = some i/\p i=false /\ ∀ j∈l.take k,p j=true
 | [],⟨i,hi,_⟩=>by simp at hi
 | x::r,⟨i,hi,hp⟩=>by
  cases hx:p x with
  | false=>exact ⟨0,x,rfl,hx,by simp⟩
  | true =>
   have : ∃ i∈r,p i=false:=by
    rcases List.mem_cons.1 hi with h|h
    ·subst h;rw[hx]at hp;cases hp
    ·exact ⟨i,h,hp⟩
   obtain ⟨k,j,h1,h2,h3⟩:=dK r this;refine ⟨k+1,j,by simpa using h1,h2,λ q hq => ?_⟩;simp only[List.take_succ_cons,List.mem_cons]at hq;rcases hq with h|h
   ·subst h;exact hx
   ·exact h3 q h
theorem progress {l:List AI} (hd:Q5 ops l=true) (Gm:md = .gc->Region.departs ops=true) {c6:Array Bool} (hs:c6.size=ops.size) (hr:Region.ready md ops c6=[]) : ∀ j,j<ops.size->c6.getD j false=true:=by
 intro j hj;cases ew:c6.getD j false with
 | true=>rfl
 | false =>
  exfalso;simp only[Q5,Bool.and_eq_true]at hd;obtain ⟨⟨_,jq⟩,xa⟩:=hd;have oo : ∀ i,i<ops.size->c6.getD i false=false -> ¬ ∀ o,ops[i]? = some o -> ∀ e∈o.after,Region.binds md e=true->c6.getD e.on false=true:=λ i hi hl Ce=>by
   have:i∈Region.ready md ops c6:=mem_ready.2 ⟨by
    have:i<c6.size:=by omega
    simp [Array.getD,this]at hl ⊢;exact hl,ops[i],Array.getElem?_eq_getElem hi,λ e he hb=>Ce ops[i] (Array.getElem?_eq_getElem hi) e he hb⟩
   rw[hr]at this;simp at this
  by_cases Ge:md = .gc
  ·subst Ge
   rw[Gm rfl]at xa;simp only[Bool.not_true,Bool.false_or,List.all_eq_true,List.mem_range,List.contains_iff_mem]at xa;obtain ⟨k,i,h1,h2,h3⟩:=dK (p:=λ q=>c6.getD q false) (Region.linearise .gc ops 0) ⟨j,xa j hj,ew⟩;obtain ⟨o,ho,hh⟩:=rC ops .gc ops.size 0 (Array.replicate ops.size false) (by simp) k i h1;have hi:i<ops.size:=(Array.getElem?_eq_some_iff.1 ho).1;refine oo i hi h2 λ o' zk e he hb => ?_
   rw[ho]at zk;obtain rfl:o=o':=by simpa using zk
   rcases hh e he hb with h4|h4
   ·simp [Array.getD]at h4
   ·exact h3 e.on h4
  ·obtain ⟨k,i,h1,h2,h3⟩:=dK (p:=λ q=>c6.getD q false) (List.range ops.size) ⟨j,by simpa using hj,ew⟩
   have lz:i=k:=by
    have pe:k<ops.size:=by have:=(zS h1).1;simpa using this
    rw[List.getElem?_range pe]at h1;simpa using h1.symm
   subst lz;have hi:i<ops.size:=by have:=(zS h1).1;simpa using this
   refine oo i hi h2 λ o ho e he hb => ?_
   rw[List.all_eq_true]at jq;have Cw:(o,i)∈ops.toList.zipIdx:=List.mem_zipIdx_iff_getElem?.2 (by simpa using ho);have h4:=jq (o,i) Cw;simp only[Array.all_eq_true_iff_forall_mem,Bool.or_eq_true,decide_eq_true_eq]at h4;rcases h4 e he with h5|h5
   ·exact h3 e.on (by rw[List.take_range];simp;omega)
   ·exfalso
    unfold Region.binds at hb;split at h5
    ·rename_i row Mp
     rw[Mp]at hb;simp at hb;exact Ge hb
    ·cases h5
variable {B:Nat} {S:Nat->Prop} {w0:World} {m0:M} {N:Nat}
variable {P:Program} {num:Nat->Nat} {C:Cl} {Q:Exit->Act->World->Prop}
def SB (c6:Array Bool) (n:Nat):Nat:=(List.range n).countP (λ j => !c6.getD j false)
theorem lR {α:Type} {p q:α->Bool} : ∀ {l:List α} {x:α},(∀ y∈l,q y=true->p y=true)->x∈l->p x=true->q x=false->l.countP q<l.countP p
 | [],x,_,hx,_,_=>by simp at hx
 | y::r,x,h,hx,hp,hq=>by
  have hle:r.countP q<=r.countP p:=List.countP_mono_left λ z hz hqz=>h z (by simp [hz]) hqz
  rw[List.countP_cons,List.countP_cons];rcases List.mem_cons.1 hx with rfl|hx
  ·simp only[hp,hq,if_true,Bool.false_eq_true,if_false]
   omega
  ·have:=lR (l:=r) (λ z hz=>h z (by simp [hz])) hx hp hq
   by_cases Mk:q y=true
   ·simp only[Mk,h y (by simp) Mk,if_true];omega
   ·simp only[Mk,Bool.false_eq_true,if_false]
    split<;>omega
theorem AhG (hC:GX P num C) {l:List AI} (k6:O4 P num N ops ops.toList l=true) {σ:Nat->St} {rs:List DR} (h:WY C ops l σ rs) (Gm:md = .gc->Region.departs ops=true)
  (hQ : ∀ m' a',m'.own=(σ l.length).own->FP B S w0 m0 N (j4 (σ l.length).tm) m' a'->Q .normal a' m'.w) :
  ∀ (fuel:Nat) (c6:Array Bool) (a:Act) (m:M),c6.size=ops.size->SB c6 ops.size<=fuel->SN ops (λ j=>c6.getD j false)->m.own=(DX (λ j=>c6.getD j false) rs 0 (d0 σ)).2->FP B S w0 m0 N (DX (λ j=>c6.getD j false) rs 0 (d0 σ)).1 m a->wpAny P md ops Q fuel c6 a m.w:=by
 have hlen:ops.size=l.length:=by have:=(VV k6).1;simpa using this
 have final : ∀ (c6:Array Bool) (a:Act) (m:M),(∀ j,j<ops.size->c6.getD j false=true)->m.own=(DX (λ j=>c6.getD j false) rs 0 (d0 σ)).2->FP B S w0 m0 N (DX (λ j=>c6.getD j false) rs 0 (d0 σ)).1 m a->Q .normal a m.w:=λ c6 a m Ce l8 hf=>by
  have:DX (λ j=>c6.getD j false) rs 0 (d0 σ)=(j4 (σ l.length).tm,(σ l.length).own):=by
   rw[<-cM h l.length (Nat.le_refl _)];refine YO rs 0 _ λ i hi => ?_
   simp only[Nat.zero_add];rw[Ce i (by rw[hlen,<-h.len];exact hi)];simp;rw[<-h.len];exact hi
  rw[this]at l8 hf;exact hQ m a l8 hf
 have Eu : ∀ c6:Array Bool,SB c6 ops.size<=0 -> ∀ j,j<ops.size->c6.getD j false=true:=λ c6 h0 j hj=>by
  have h1:SB c6 ops.size=0:=by omega
  unfold SB at h1;rw[List.countP_eq_zero]at h1;simpa using h1 j (by simpa using hj)
 intro fuel;induction fuel with
 | zero =>
  intro c6 a m ag hn Lb l8 hf;refine ⟨?_,final c6 a m (Eu c6 hn) l8 hf⟩;cases hr:Region.ready md ops c6 with
  | nil=>rfl
  | cons i r =>
   obtain ⟨h1,o,ho,_⟩:=mem_ready.1 (show i∈Region.ready md ops c6 by rw[hr];simp);have hi:i<ops.size:=(Array.getElem?_eq_some_iff.1 ho).1;have h2:=Eu c6 hn i hi;have au:i<c6.size:=by omega
   simp [Array.getD,au]at h1 h2;rw[h1]at h2;cases h2
 | succ fuel ih =>
  intro c6 a m ag hn Lb l8 hf;refine ⟨λ hr=>final c6 a m (progress h.ok Gm ag hr) l8 hf,λ i hi => ?_⟩;obtain ⟨h1,o,ho,Cn⟩:=mem_ready.1 hi;have hio:i<ops.size:=(Array.getElem?_eq_some_iff.1 ho).1;have au:i<c6.size:=by omega
  have wx:c6.getD i false=false:=by
   simp [Array.getD,au]at h1 ⊢;exact h1
  have zh:i<l.length:=by omega
  have cn:i<rs.length:=by rw[h.len];exact zh
  have hx:l[i]? = some l[i]:=zE zh;have hr:rs[i]? = some rs[i]:=zE cn;have fo : ∀ o',ops[i]? = some o' -> ∀ e∈o'.after,Region.binds .any e=true->c6.getD e.on false=true:=λ o' zk e he hb=>by
   rw[ho]at zk;obtain rfl:o=o':=by simpa using zk
   exact Cn e he (Sr hb md)
  obtain ⟨g1,g2,g3,g4⟩:=Yp h hx hr Lb wx fo;have Me:=(VV k6).2 i o l[i] (by simpa using ho) hx;have yj : ∀ j,(c6.setIfInBounds i true).getD j false=(decide (j=i)||c6.getD j false):=λ j=>by
   by_cases Ls:j=i
   ·subst Ls;simp [Array.getD,au]
   ·rw[getD_set_ne false (Ne.symm Ls)];simp [Ls]
  refine wK hC ho Me hf g1 (λ hg=>by rw[l8];exact g2 hg) λ m' a' ma od => ?_
  have ml:=g4 _ yj;refine ih (c6.setIfInBounds i true) a' m' (by simpa using ag) ?_ ?_ ?_ ?_
  ·have o7:SB (c6.setIfInBounds i true) ops.size<SB c6 ops.size:=by
    refine lR (x:=i) (λ j _ hj => ?_) (by simpa using hio) (by simp [wx]) (by rw[yj];simp);rw[yj]at hj;simp at hj ⊢;exact hj.2
   omega
  ·intro j oj hj Ja e he hb
   change (c6.setIfInBounds i true).getD j false=true at hj;show (c6.setIfInBounds i true).getD e.on false=true;rw[yj]at hj ⊢;simp only[Bool.or_eq_true,decide_eq_true_eq]at hj ⊢;rcases hj with rfl|hj
   ·exact .inr (fo oj Ja e he hb)
   ·exact .inr (Lb j oj hj Ja e he hb)
  ·rw[ml,ma,l8]
   rfl
  ·rw[ml]
   rw[l8,g3]at od;have hd:(l[i]).dst=(rs[i]).d:=(h.fits i _ _ hx hr).d.symm;rw[hd]at od;exact od
theorem AhH (hC:GX P num C) {id:Nat} {l:List AI} (k6:O4 P num N ops ops.toList l=true) (hd:Q5 ops l=true) {st j8:St} (m4:C4 C l st=some j8) {m:M} {a:Act} (l8:m.own=st.own) (hf:FP B S w0 m0 N (j4 st.tm) m a)
  (hQ : ∀ m' a',m'.own=j8.own->FP B S w0 m0 N (j4 j8.tm) m' a'->Q .normal a' m'.w):(Code.region id ops true).wp P Q a m.w:=by
 obtain ⟨σ,rs,h0,h1,hl,h2⟩:=trace m4;have hD:WY C ops l σ rs:=⟨hd,hl,h2⟩;obtain ⟨ni,ql⟩:=grow hf.mem ((Below.refl m.w.heap.size m.w).drew);have wo:FP B S w0 m0 N (j4 st.tm) ⟨m.ν,m.own,m.w.drew⟩ a:=⟨ni,hf.ext.trans ql,λ i=>ql.cv (hf.tm i),hf.size,hf.defers⟩;have On:DX (λ j=>(Array.replicate ops.size false).getD j false) rs 0 (d0 σ)=d0 σ:=dO rs 0 _ λ i _=>by simp [Array.getD]
 have key : ∀ md:Region.Mode,(md = .gc->Region.departs ops=true) -> ∀ t,wpOps P ops Q (Region.linearise md ops t) a m.w.drew:=λ md Gm t=>by
  refine wpAny_sound ops.size t (Array.replicate ops.size false) a m.w.drew ?_;refine AhG hC k6 hD Gm (by rw[h1];exact hQ) ops.size _ a ⟨m.ν,m.own,m.w.drew⟩ (by simp) ?_ ?_ ?_ ?_
  ·unfold SB
   exact Nat.le_trans List.countP_le_length (by simp)
  ·intro j o hj
   simp [Array.getD]at hj
  ·rw[On];simp [d0,h0,l8]
  ·rw[On];simpa [d0,h0] using wo
 refine wp_region_draw λ t => ?_
 change wpOps P ops Q _ a m.w.drew;unfold Region.schedule;split
 ·exact key .any (λ h=>by cases h) t
 ·rename_i Gb
  have Pc:Region.departs ops=true:=by simp at Gb;exact Gb.2
  split
  ·exact key .text (λ_=>Pc) _
  ·exact key .gc (λ_=>Pc) _
end
end Go.g6

namespace Go.g6
open Go.RowKit
section
variable {B:Nat} {S:Nat->Prop} {w0:World} {m0:M} {N:Nat}
variable {P:Program} {num:Nat->Nat} {C:Cl}
theorem Aht (m:Tm) (l:List Nat) (j:Nat):j4 (bf m l) j=j4 m j\/j4 (bf m l) j = .any:=by
 induction m with
 | nil=>exact .inl rfl
 | cons x r ih =>
  obtain ⟨i,v⟩:=x;simp only[bf];split
  ·by_cases h:j=i
   ·subst h
    rename_i hc;right
    clear ih;induction r with
    | nil=>rfl
    | cons y q ih =>
     obtain ⟨k,u⟩:=y;simp only[bf];split
     ·exact ih
     ·rename_i hk
      have : ¬ j=k:=λ e=>by subst e;exact hk hc
      simp only[j4,if_neg this];exact ih
   ·rcases ih with h1|h1
    ·left;simp only[j4,if_neg h];exact h1
    ·right;exact h1
  ·by_cases h:j=i
   ·left;simp [j4,h]
   ·simp only[j4,if_neg h]
    exact ih
inductive HY (P:Program) (num:Nat->Nat) (N:Nat):List It->List Item->Prop
 | nil:HY P num N [] []
 | code {c:Code} {a:BK} {k:List It} {t:List Item} (h:E1 P num N c a=true) (hk:HY P num N k t):HY P num N (.code a::k) (.code c::t)
 | drop {ts ss:List Nat} {k:List It} {t:List Item} (hk:HY P num N k t):HY P num N (.ki ts ss::k) t
 | g8 {id:Nat} {k:List It} {t:List Item} (hk:HY P num N k t):HY P num N (.g8 id::k) (.inBlock id::t)
 | lp {c:Code} {a:BK} {k:List It} {t:List Item} (h:E1 P num N c a=true) (hk:HY P num N k t):HY P num N (.lp a::k) (.inLoop c::t)
 | scope {c:Code} {k:List It} {t:List Item} (hk:HY P num N k t):HY P num N k (.inScope c::t)
theorem vK {b:Frame} {a:Act} {k:List Item} {cs:List Frame} {w:World} {c:Code}:step P (lone (b.at a (.inScope c::k)) cs w) = .next (lone (b.at a k) cs w) :=
 step_lone_go (by simp [stepG,stepG.exec,Frame.at])
theorem Ahl {b:Frame} {a:Act} {k:List Item} {cs:List Frame} {w:World} {c:Code}:step P (lone (b.at a (.code (.scope c)::k)) cs w) = .next (lone (b.at a (.code c :: .inScope c::k)) cs w) :=
 step_lone_go (by simp [stepG,stepG.exec,Frame.at])
theorem TA {id:Nat} : ∀ {k:List It} {t:List Item},HY P num N k t -> ∀ {k':List It},DJ id k=some k' -> ∃ t',exitTo id t=some t'/\HY P num N k' t'
 | _,_,.nil,k',h=>by simp [DJ]at h
 | _,_,.code h0 hk,k',h=>by
  simp only[DJ]at h;obtain ⟨t',h1,h2⟩:=TA hk h;exact ⟨t',by simpa [exitTo] using h1,h2⟩
 | _,_,.drop hk,k',h=>by
  simp only[DJ]at h;exact TA hk h
 | _,_,.g8 (id:=Jm) hk,k',h=>by
  simp only[DJ]at h;split at h
  ·rename_i he
   subst he;simp only[Option.some.injEq]at h;subst h;exact ⟨_,by simp [exitTo],hk⟩
  ·rename_i he
   obtain ⟨t',h1,h2⟩:=TA hk h;exact ⟨t',by simpa [exitTo,he] using h1,h2⟩
 | _,_,.lp h0 hk,k',h=>by
  simp only[DJ]at h;obtain ⟨t',h1,h2⟩:=TA hk h;exact ⟨t',by simpa [exitTo] using h1,h2⟩
 | _,_,.scope hk,k',h=>by
  obtain ⟨t',h1,h2⟩:=TA hk h;exact ⟨t',by simpa [exitTo] using h1,h2⟩
def jF (B:Nat) (S:Nat->Prop) (w0:World) (m0:M) (N:Nat) (P:Program) (b:Frame) (cs:List Frame) (Nz:Machine) (j8:St):Prop :=
 ∃ a' m' q7,Steps P Nz (lone { b.at a' q7 with mode := .returning } cs m'.w)/\m'.own=j8.own/\FP B S w0 m0 N (j4 j8.tm) m' a'
theorem Af9 (hC:GX P num C) (b:Frame) (cs:List Frame) : ∀ (n:Nat) (k:List It) (st j8:St),run C n k st=some j8 -> ∀ (t:List Item),HY P num N k t -> ∀ (m:M) (a:Act),m.own=st.own->FP B S w0 m0 N (j4 st.tm) m a ->
  jF B S w0 m0 N P b cs (lone (b.at a t) cs m.w) j8:=by
 intro n;induction n with
 | zero=>intro k st j8 h;simp [run]at h
 | succ n ih =>
  intro k st j8 h t ht;have fin : ∀ (t:List Item),HY P num N [] t -> ∀ (m:M) (a:Act),m.own=st.own->FP B S w0 m0 N (j4 st.tm) m a->st=j8->jF B S w0 m0 N P b cs (lone (b.at a t) cs m.w) j8:=by
   intro t ht;generalize hk:([]:List It)=kk at ht;induction ht with
   | nil =>
    intro m a l8 hf he;subst he;exact ⟨a,m,[],.one step_end,l8,hf⟩
   | scope iy pt =>
    intro m a l8 hf he;obtain ⟨a',m',q7,h1,h2⟩:=pt hk m a l8 hf he;exact ⟨a',m',q7,.head vK h1,h2⟩
   | code=>cases hk
   | drop=>cases hk
   | g8=>cases hk
   | lp=>cases hk
  cases k with
  | nil =>
   intro m a l8 hf;simp only[run,Option.some.injEq]at h;exact fin t ht m a l8 hf h
  | cons it k =>
   generalize km:it::k=kk at ht;induction ht with
   | nil=>cases km
   | scope iy pt =>
    intro m a l8 hf;obtain ⟨a',m',q7,h1,h2⟩:=pt km m a l8 hf;exact ⟨a',m',q7,.head vK h1,h2⟩
   | @g8 id k2 t2 iy pt =>
    intro m a l8 hf;obtain ⟨rfl,rfl⟩:it = .g8 id/\k=k2:=by simpa using km
    simp only[run]at h;obtain ⟨a',m',q7,h1,h2⟩:=ih k st j8 h t2 iy m a l8 hf;exact ⟨a',m',q7,.head step_inBlock h1,h2⟩
   | @lp c ac k2 t2 k6 iy pt =>
    intro m a l8 hf;obtain ⟨rfl,rfl⟩:it = .lp ac/\k=k2:=by simpa using km
    simp only[run]at h;obtain ⟨a',m',q7,h1,h2⟩:=ih _ st j8 h (.code c :: .inLoop c::t2) (.code k6 (.lp k6 iy)) m a l8 hf;exact ⟨a',m',q7,.head step_inLoop h1,h2⟩
   | @drop ts ss k2 t2 iy pt =>
    intro m a l8 hf;obtain ⟨rfl,rfl⟩:it = .ki ts ss/\k=k2:=by simpa using km
    simp only[run]at h;obtain ⟨nh,he⟩:=Yr hf.mem ss;have od:FP B S w0 m0 N (j4 (bf st.tm ts)) ⟨m.ν,m.own.drop ss,m.w⟩ a:=⟨nh,hf.ext.trans he,λ i=>by
     rcases Aht st.tm ts i with h1|h1
     ·rw[h1];exact he.cv (hf.tm i)
     ·rw[h1];exact .any _,hf.size,hf.defers⟩
    obtain ⟨a',m',q7,h1,h2,h3⟩:=ih k ⟨bf st.tm ts,st.own.drop ss⟩ j8 h t2 iy ⟨m.ν,m.own.drop ss,m.w⟩ a (by simp [l8]) od;exact ⟨a',m',q7,h1,h2,h3⟩
   | @code c ac k2 t2 k6 iy pt =>
    obtain ⟨rfl,rfl⟩:it = .code ac/\k=k2:=by simpa using km
    clear pt km;intro m a l8 hf;cases ac with
    | dr ac ts ss =>
     simp only[E1]at k6;simp only[run]at h;exact ih _ st j8 h _ (.code k6 (.drop iy)) m a l8 hf
    | skip =>
     simp only[run]at h;cases c with
     | skip =>
      obtain ⟨a',m',q7,h1,h2⟩:=ih _ st j8 h _ iy m a l8 hf;exact ⟨a',m',q7,.head step_skip h1,h2⟩
     | label =>
      obtain ⟨a',m',q7,h1,h2⟩:=ih _ st j8 h _ iy m a l8 hf;exact ⟨a',m',q7,.head step_label h1,h2⟩
     | _=>simp [E1]at k6
    | scope ac =>
     simp only[run]at h;cases c with
     | scope c =>
      simp only[E1]at k6;obtain ⟨a',m',q7,h1,h2⟩:=ih _ st j8 h _ (.code k6 (.scope (c:=c) iy)) m a l8 hf;exact ⟨a',m',q7,.head Ahl h1,h2⟩
     | _=>simp [E1]at k6
    | seq a1 a2 =>
     simp only[run]at h;cases c with
     | seq c1 c2 =>
      simp only[E1,Bool.and_eq_true]at k6;obtain ⟨a',m',q7,h1,h2⟩:=ih _ st j8 h _ (.code k6.1 (.code k6.2 iy)) m a l8 hf;exact ⟨a',m',q7,.head step_seq h1,h2⟩
     | _=>simp [E1]at k6
    | cond x a1 a2 =>
     simp only[run]at h;cases c with
     | cond xc c1 c2 =>
      simp only[E1,Bool.and_eq_true]at k6;have aj:CV B S m (st.ev x) (a.eval xc):=by rw[nU];exact hf.says xc x k6.1.1
      split at h
      ·rename_i hx
       rw[hx]at aj;obtain ⟨a',m',q7,h1,h2⟩:=ih _ st j8 h _ (.code k6.1.2 iy) m a l8 hf;exact ⟨a',m',q7,.head (step_cond (Q3 aj)) h1,h2⟩
      ·rename_i hx
       rw[hx]at aj;obtain ⟨a',m',q7,h1,h2⟩:=ih _ st j8 h _ (.code k6.2 iy) m a l8 hf;exact ⟨a',m',q7,.head (step_cond (Q3 aj)) h1,h2⟩
      ·cases h
     | _=>simp [E1]at k6
    | block id ac =>
     simp only[run]at h;cases c with
     | block Jm c =>
      simp only[E1,Bool.and_eq_true,beq_iff_eq]at k6;obtain ⟨rfl,k6⟩:=k6;obtain ⟨a',m',q7,h1,h2⟩:=ih _ st j8 h _ (.code k6 (.g8 iy)) m a l8 hf;exact ⟨a',m',q7,.head step_block h1,h2⟩
     | _=>simp [E1]at k6
    | loop ac =>
     simp only[run]at h;cases c with
     | loop c =>
      simp only[E1]at k6;obtain ⟨a',m',q7,h1,h2⟩:=ih _ st j8 h _ (.code k6 (.lp k6 iy)) m a l8 hf;exact ⟨a',m',q7,.head step_loop h1,h2⟩
     | _=>simp [E1]at k6
    | exit id =>
     simp only[run]at h;cases c with
     | exit Jm =>
      simp only[E1,beq_iff_eq]at k6;subst k6;split at h
      ·rename_i k' ga
       obtain ⟨t',e1,e2⟩:=TA iy ga;obtain ⟨a',m',q7,h1,h2⟩:=ih _ st j8 h _ e2 m a l8 hf;exact ⟨a',m',q7,.head (step_exit e1) h1,h2⟩
      ·cases h
     | _=>simp [E1]at k6
    | ret =>
     simp only[run,Option.some.injEq]at h;subst h;cases c with
     | ret=>exact ⟨a,m,.code .ret::t2,.one step_ret,l8,hf⟩
     | _=>simp [E1]at k6
    | ops l draw =>
     simp only[run]at h;split at h
     ·rename_i BA Hk
      cases c with
      | region id ops sn =>
       simp only[E1,Bool.and_eq_true,beq_iff_eq]at k6;obtain ⟨⟨rfl,Gv⟩,qk⟩:=k6;have hwp:(Code.region id ops sn).wp P (λ e a' w'=>e = .normal /\ ∃ m',m'.w=w'/\m'.own=BA.own/\FP B S w0 m0 N (j4 BA.tm) m' a') a m.w:=by
        cases sn with
        | true=>exact AhH hC Gv (by simpa using qk) Hk l8 hf λ m' a' h1 h2=>⟨rfl,m',rfl,h1,h2⟩
        | false =>
         refine wp_region ?_;rw[List.range_eq_range'];exact wL hC Gv ops.size 0 st BA m a (by omega) (by simpa using Hk) l8 hf λ m' a' h1 h2=>⟨rfl,m',rfl,h1,h2⟩
       obtain ⟨e,a1,w1,⟨rfl,m1,rfl,Gw,wo⟩,Kn⟩:=hwp b t2 cs;obtain ⟨a',m',q7,h1,h2,h3⟩:=ih _ BA j8 h _ iy m1 a1 Gw wo;exact ⟨a',m',q7,Steps.trans Kn h1,h2,h3⟩
      | _=>simp [E1]at k6
     ·cases h
end
end Go.g6
