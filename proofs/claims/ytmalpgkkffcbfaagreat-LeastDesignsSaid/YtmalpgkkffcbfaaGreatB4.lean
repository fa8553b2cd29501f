/-
  Calls: readings handed over and handed back.
-/
import Derived.Test.YtmalpgkkffcbfaaGreatB3
import Derived.Orders
set_option linter.unusedSimpArgs false
set_option linter.unusedVariables false
set_option linter.unnecessarySimpa false
namespace Go.b8
open Go.RowKit
theorem O6 {α β:Type} (f:α->Option β) : ∀ {l:List α} {l':List β},l.mapM f=some l'->l.length=l'.length /\ ∀ (i:Nat) (x:α),l[i]? = some x -> ∃ y,l'[i]? = some y/\f x=some y
 | [],l',h=>by
  simp at h;subst h;exact ⟨rfl,λ i x hx=>by simp at hx⟩
 | x::r,l',h=>by
  simp only[List.mapM_cons,Option.bind_eq_bind,Option.pure_def]at h;cases hx:f x with
  | none=>simp [hx]at h
  | some y =>
   cases hr:r.mapM f with
   | none=>simp [hx,hr]at h
   | some r' =>
    simp [hx,hr]at h;subst h;obtain ⟨h1,h2⟩:=O6 f hr;refine ⟨by simp [h1],λ i z hz => ?_⟩;cases i with
    | zero=>simp at hz;subst hz;exact ⟨y,rfl,hx⟩
    | succ i=>exact h2 i z (by simpa using hz)
section
variable {B:Nat} {S:Nat->Prop} {w0:World} {m:M}
variable {P:Program} {num:Nat->Nat} {o:Oper} {a:Act} {ρ:AP->AV}
theorem vH (hm:BP B S w0 m) (l0:Bool) (R:Bool->Nat->Prop) (hR : ∀ l b,b<m.w.heap.size->safe B S m l b->R l b) (hL : ∀ s t g,live m s t->m.ν s t=some g->R l0 g) :
  ∀ (d:Nat) (c c':AV) (v:Value),snap m.own l0 d c=some c'->CC B S m c v->Rd m.w R c' v:=by
 intro d;induction d with
 | zero =>
  intro c c' v h hc;cases hc with
  | rd hr =>
   have:c'=c:=by cases hr<;>simp [snap]at h<;>exact h.symm
   subst this;exact hr.mono hR (λ_ _ _ _=>rfl)
  | nil=>simp [snap]at h;subst h;exact .jb _ _ _
  | _=>simp [snap]at h
 | succ d ih =>
  intro c c' v h hc;cases hc with
  | rd hr =>
   have:c'=c:=by cases hr<;>simp [snap]at h<;>exact h.symm
   subst this;exact hr.mono hR (λ_ _ _ _=>rfl)
  | nil=>simp [snap]at h;subst h;exact .jb _ _ _
  | ptr=>simp [snap]at h
  | o5=>simp [snap]at h
  | row s t z off len ad cap ht cj oe ha hb =>
   simp only[snap]at h;cases dm:EP m.own (.row s t z off len) with
   | none=>simp [dm]at h
   | some es =>
    simp only[dm]at h;cases iw:es.mapM (λ cs:List AV=>cs.mapM (snap m.own l0 d)) with
    | none=>simp [iw]at h
    | some es' =>
     simp [iw]at h;subst h;have Nh:(∀ e∈es,e.length=z)/\es.length=len /\ ∃ b,m.own.get s t=some b:=by
      simp only[EP]at dm;cases l9:m.own.get s t with
      | none=>simp [l9]at dm
      | some b =>
       simp only[l9]at dm;split at dm
       ·rename_i hle
        obtain rfl:=Option.some.inj dm;refine ⟨λ e he => ?_,by simp;omega,b,rfl⟩;rw[<-hle.2];exact (hm.c7 s t b l9).1 e (List.mem_of_mem_drop (List.mem_of_mem_take he))
       ·cases dm
     obtain ⟨hz,hlen,b,l9⟩:=Nh;have s9:CV B S m (.row s t z off len) (.slice ad len cap):= .ca (.one (.row s t z off len ad cap ht cj oe ha hb));obtain ⟨ad2,Jd,news,Io,hE⟩:=cD hm s9 dm hz cj;obtain ⟨rfl,_,rfl⟩:ad=ad2/\len=es.length/\cap=Jd:=by simpa using Io
     obtain ⟨mb,um⟩:=O6 _ iw;by_cases h0:es=[]
     ·subst h0
      have:es'=[]:=List.eq_nil_of_length_eq_zero (by rw[<-mb];rfl)
      subst this;have:len=0:=by rw[<-hlen];rfl
      subst this;exact .jb _ _ _
     ·obtain ⟨_,bn⟩:=hb b l9
      rcases bn with ⟨Anh,_⟩|⟨g,arr,e',hg,kr,hh,Ku⟩
      ·exact absurd (List.eq_nil_of_length_eq_zero (by omega)) h0
      ·rw[kr,<-hlen,mb]
       refine .sl l0 es' g (off*z) z cap (λ i j=>news.getD (i*z+j) undef) (λ e=>h0 (List.eq_nil_of_length_eq_zero (by rw[mb,e];rfl))) cj (hL s t g ⟨b,l9⟩ hg) (by omega) (λ e' iv => ?_) (λ i e hi j c hj => ?_) (λ i e hi j c hj => ?_)
       ·obtain ⟨i,hi,rfl⟩:=List.getElem_of_mem iv
        have m8:i<es.length:=by omega
        obtain ⟨y,hy,dp⟩:=um i es[i] (zE m8);have:es'[i]=y:=by
         have:=(zS hy).2;exact this
        rw[this,<-(O6 _ dp).1];exact hz _ (List.getElem_mem m8)
       ·have m8:i<es.length:=by rw[mb];exact (zS hi).1
        obtain ⟨y,hy,dp⟩:=um i es[i] (zE m8);rw[hi]at hy;obtain rfl:e=y:=by simpa using hy
        obtain ⟨fr,_⟩:=O6 _ dp;have Di:j<(es[i]).length:=by rw[fr];exact (zS hj).1
        obtain ⟨u,hu,fj⟩:=hE.rel i es[i] (zE m8) j _ (zE Di);have:=hE.cells _ kr (i*z+j) u hu
        rw[G0]at this;simp only[List.getD,hu,Option.getD_some];exact this
       ·have m8:i<es.length:=by rw[mb];exact (zS hi).1
        obtain ⟨y,hy,dp⟩:=um i es[i] (zE m8);rw[hi]at hy;obtain rfl:e=y:=by simpa using hy
        obtain ⟨fr,jz⟩:=O6 _ dp;have Di:j<(es[i]).length:=by rw[fr];exact (zS hj).1
        obtain ⟨u,hu,fj⟩:=hE.rel i es[i] (zE m8) j _ (zE Di);obtain ⟨c2,jc,ve⟩:=jz j _ (zE Di);rw[hj]at jc;obtain rfl:c=c2:=by simpa using jc
        simp only[List.getD,hu,Option.getD_some];exact ih _ _ _ ve fj
def DA (w:World) (R:Bool->Nat->Prop) (c:AV) (v:Value):Prop :=
 Rd w R c v \/ ∃ (cs:List AV) (vs:List Value),c = .agg cs/\v = .agg vs.toArray/\cs.length=vs.length /\ ∀ (j:Nat) (x:AV) (u:Value),cs[j]? = some x->vs[j]? = some u->Rd w R x u
theorem ZV (hm:BP B S w0 m) (l0:Bool) (R:Bool->Nat->Prop) (hR : ∀ l b,b<m.w.heap.size->safe B S m l b->R l b) (hL : ∀ s t g,live m s t->m.ν s t=some g->R l0 g)
  {c c':AV} {v:Value} (h:CW m.own l0 c=some c') (hc:CV B S m c v):DA m.w R c' v:=by
 cases hc with
 | any v=>simp [CW,snap]at h
 | e6=>simp [CW,snap]at h
 | ca hc=>cases hc with
  | one hc =>
   have h':snap m.own l0 6 c=some c':=by
    cases hc with
    | rd hr=>cases hr<;>simpa [CW] using h
    | _=>simpa [CW] using h
   exact Or.inl (vH hm l0 R hR hL 6 c c' v h' hc)
  | fn=>simp [CW,snap]at h
  | ub=>simp [CW,snap]at h
  | agg cs vs m5 =>
   simp only[CW]at h;cases gj:cs.mapM (snap m.own l0 6) with
   | none=>simp [gj]at h
   | some dk =>
    simp [gj]at h;subst h;obtain ⟨h1,h2⟩:=O6 _ gj;refine Or.inr ⟨dk,vs,rfl,rfl,h1.symm.trans m5.1,λ j x u hx hu => ?_⟩;have hj:j<cs.length:=by rw[h1];exact (zS hx).1
    obtain ⟨y,hy,dp⟩:=h2 j cs[j] (zE hj);rw[hx]at hy;obtain rfl:x=y:=by simpa using hy
    exact vH hm l0 R hR hL 6 _ _ _ dp (m5.2 j cs[j] u (zE hj) hu)
def DV (w:World) (R:Bool->Nat->Prop) (c:AV) (v:Value):Prop :=
 DA w R c v \/ ∃ (cs:List AV) (vs:List Value),c = .e6 cs/\v = .tuple vs.toArray/\cs.length=vs.length /\ ∀ (j:Nat) (x:AV) (u:Value),cs[j]? = some x->vs[j]? = some u->DA w R x u
theorem Ag8 (hm:BP B S w0 m) (l0:Bool) (R:Bool->Nat->Prop) (hR : ∀ l b,b<m.w.heap.size->safe B S m l b->R l b) (hL : ∀ s t g,live m s t->m.ν s t=some g->R l0 g)
  {c c':AV} {v:Value} (h:QF m.own l0 c=some c') (hc:CV B S m c v):DV m.w R c' v:=by
 by_cases ht : ∃ cs,c = .e6 cs
 ·obtain ⟨cs,rfl⟩:=ht
  obtain ⟨vs,rfl,hl,u7⟩:=bH hc;simp only[QF]at h;cases gj:cs.mapM (CW m.own l0) with
  | none=>simp [gj]at h
  | some dk =>
   simp [gj]at h;subst h;obtain ⟨h1,h2⟩:=O6 _ gj;refine Or.inr ⟨dk,vs,rfl,rfl,h1.symm.trans hl,λ j x u hx hu => ?_⟩;have hj:j<cs.length:=by rw[h1];exact (zS hx).1
   obtain ⟨y,hy,dp⟩:=h2 j cs[j] (zE hj);rw[hx]at hy;obtain rfl:x=y:=by simpa using hy
   exact ZV hm l0 R hR hL dp (.ca (u7 j cs[j] u (zE hj) hu))
 ·have h':CW m.own l0 c=some c':=by
   cases c<;>first|exact h|exact absurd ⟨_,rfl⟩ ht
  exact Or.inl (ZV hm l0 R hR hL h' hc)
theorem DA.ca {B:Nat} {S:Nat->Prop} {m:M} {c:AV} {v:Value} (h:DA m.w (safe B S m) c v):CA B S m c v:=by
 rcases h with h|⟨cs,vs,rfl,rfl,hl,hh⟩
 ·exact .one (.rd h)
 ·exact .agg cs vs ⟨hl,λ j x u hx hu => .rd (hh j x u hx hu)⟩
theorem DV.cv {B:Nat} {S:Nat->Prop} {m:M} {c:AV} {v:Value} (h:DV m.w (safe B S m) c v):CV B S m c v:=by
 rcases h with h|⟨cs,vs,rfl,rfl,hl,hh⟩
 ·exact .ca h.ca
 ·exact .e6 cs vs hl λ j x u hx hu=>(hh j x u hx hu).ca
theorem KG : ∀ {cs:List AV},B8 cs -> ∀ (j:Nat) (c:AV),cs[j]? = some c->A2 c
 | [],_,j,c,h=>by simp at h
 | x::r,hc,j,c,h=>by
  unfold B8 at hc;cases j with
  | zero=>simp at h;subst h;exact hc.1
  | succ j=>exact KG hc.2 j c (by simpa using h)
theorem XL : ∀ {cs:List (List AV)},EZ cs -> ∀ (j:Nat) (c:List AV),cs[j]? = some c->B8 c
 | [],_,j,c,h=>by simp at h
 | x::r,hc,j,c,h=>by
  unfold EZ at hc;cases j with
  | zero=>simp at h;subst h;exact hc.1
  | succ j=>exact XL hc.2 j c (by simpa using h)
theorem Rd.clean {w:World} {R R':Bool->Nat->Prop} (hR : ∀ b,b<w.heap.size->R false b->R' false b) {c:AV} {v:Value} (h:Rd w R c v) (hc:A2 c):Rd w R' c v:=by
 induction h with
 | int k n=>exact .int k n
 | bool b=>exact .bool b
 | str s=>exact .str s
 | lf=>exact .lf
 | jb l a cap=>exact .jb l a cap
 | emp b a cap h=>exact .emp b a cap h
 | sl l es b o a6 cap u k8 hp h1 x9 hz m5 hr ih =>
  unfold A2 at hc;obtain ⟨rfl,hc⟩:=hc;obtain ⟨e,c,he,bh⟩:=U4 k8 hp hz;have hb:b<w.heap.size:=QW (m5 0 e he 0 c bh);exact .sl false es b o a6 cap u k8 hp (hR b hb h1) x9 hz m5 λ i e he j c hj=>ih i e he j c hj (KG (XL hc i e he) j c hj)
theorem DA.clean {w:World} {R R':Bool->Nat->Prop} (hR : ∀ b,b<w.heap.size->R false b->R' false b) {c:AV} {v:Value} (h:DA w R c v) (hc:A2 c):DA w R' c v:=by
 rcases h with h|⟨cs,vs,rfl,rfl,hl,hh⟩
 ·exact Or.inl (h.clean hR hc)
 ·unfold A2 at hc
  exact Or.inr ⟨cs,vs,rfl,rfl,hl,λ j x u hx hu=>(hh j x u hx hu).clean hR (KG hc j x hx)⟩
theorem DV.clean {w:World} {R R':Bool->Nat->Prop} (hR : ∀ b,b<w.heap.size->R false b->R' false b) {c:AV} {v:Value} (h:DV w R c v) (hc:A2 c):DV w R' c v:=by
 rcases h with h|⟨cs,vs,rfl,rfl,hl,hh⟩
 ·exact Or.inl (h.clean hR hc)
 ·unfold A2 at hc
  exact Or.inr ⟨cs,vs,rfl,rfl,hl,λ j x u hx hu=>(hh j x u hx hu).clean hR (KG hc j x hx)⟩
theorem bG {B:Nat} {S:Nat->Prop} {m:M} {c:AV} {v:Value} (h:CV B S m c v) (hc:A2 c):DV m.w (safe B S m) c v:=by
 have one : ∀ {c:AV} {v:Value},CC B S m c v->A2 c->Rd m.w (safe B S m) c v:=λ h hc=>by
  cases h with
  | rd h=>exact h
  | _=>unfold A2 at hc;exact hc.elim
 have ca : ∀ {c:AV} {v:Value},CA B S m c v->A2 c->DA m.w (safe B S m) c v:=λ h hc=>by
  cases h with
  | one h=>exact Or.inl (one h hc)
  | fn=>unfold A2 at hc;exact hc.elim
  | ub=>unfold A2 at hc;exact hc.elim
  | agg cs vs h =>
   unfold A2 at hc;exact Or.inr ⟨cs,vs,rfl,rfl,h.1,λ j x u hx hu=>one (h.2 j x u hx hu) (KG hc j x hx)⟩
 cases h with
 | any v=>unfold A2 at hc;exact hc.elim
 | ca h=>exact Or.inl (ca h hc)
 | e6 as vs hl h =>
  unfold A2 at hc;exact Or.inr ⟨as,vs,rfl,rfl,hl,λ j x u hx hu=>ca (h j x u hx hu) (KG hc j x hx)⟩
theorem ZM {f:Nat} {xs:Array Operand} {ts:Array TypeId} (j9:o.op = .call ⟨.value (.func f),xs,ts⟩) {w:World} (h:(callFunc f (xs.map a.eval)).run P w = .ok (.enter f (xs.map a.eval)) w):(execOp a.eval o).run P w = .ok (.enter f (xs.map a.eval)) w:=by
 simp [execOp,j9,resolve,Deferred.ofValue,Act.eval,invoke];exact h
theorem mJ {C:Cl} (hC:GM P num C) (hm:BP B S w0 m) {f:Nat} {us:List Value} {as:List AV} (hl:us.length=as.length) (hx : ∀ (j:Nat) (v:Value) (c:AV),us[j]? = some v->as[j]? = some c->CV B S m c v) (hex : ∀ w:World,(callFunc (num f) us.toArray).run P w = .ok (.enter (num f) us.toArray) w->(execOp a.eval o).run P w = .ok (.enter (num f) us.toArray) w) {vs:List AV} {r:AV} (hv:as.mapM (CW m.own true)=some vs) (hr:C.pure f vs=some r):CQ B S w0 P o a m (.val r):=by
 obtain ⟨fr,jz⟩:=O6 _ hv;have jt : ∀ (j:Nat) (c:AV) (v:Value),vs[j]? = some c->us[j]? = some v->CA m.w.heap.size (safe B S m false) ⟨λ_ _=>none,AH.emp,m.w⟩ c v:=by
  intro j c v hc tn;have db:j<as.length:=by rw[<-hl];exact (zS tn).1
  obtain ⟨y,hy,dp⟩:=jz j as[j] (zE db);rw[hc]at hy;obtain rfl:c=y:=by simpa using hy
  have s9:=hx j v as[j] tn (zE db);have oc:=ZV hm true (safe m.w.heap.size (safe B S m false) ⟨λ_ _=>none,AH.emp,m.w⟩) (λ l b hb yd=>by
   cases l with
   | false=>exact .inl ⟨yd,hb⟩
   | true=>exact .inr (.inr ⟨rfl,hb⟩)) (λ s t g jj hg=>by
   obtain ⟨_,arr,e,hh⟩:=hm.ge jj hg;exact .inr (.inr ⟨rfl,(Array.getElem?_eq_some_iff.1 hh).1⟩)) dp s9
  exact DA.ca (m:=⟨λ_ _=>none,AH.emp,m.w⟩) oc
 have fb:=hC.pure f vs r hr (safe B S m false) m.w us (by rw[<-fr];exact hl.symm) jt;intro K Q hK;unfold Oper.wp;rw[hex _ (hC.ua f vs r hr _ _)];refine Calls.mono fb λ e w' ⟨u,iv,iu,s9,m5⟩ => ?_
 subst iv;obtain ⟨mc,fq⟩:=grow hm iu;refine hK u ⟨m.ν,m.own,w'⟩ rfl mc fq ?_;refine DV.cv (m:=⟨m.ν,m.own,w'⟩) ((bG s9 m5).clean (λ b hb yd => ?_) m5);rcases yd with ⟨h1,h2⟩|⟨h1,_⟩|⟨h1,_⟩
 ·exact fq.Ai false b h2 h1
 ·refine .inr (.inl ⟨Nat.le_trans hm.size h1,λ s t jj hg => ?_⟩)
  obtain ⟨b',j7⟩:=Option.isSome_iff_exists.1 jj;obtain ⟨_,arr,e,hh⟩:=hm.ge ⟨b',j7⟩ hg;have:=(Array.getElem?_eq_some_iff.1 hh).1
  omega
 ·cases h1
theorem mI {C:Cl} (hC:GM P num C) (hm:BP B S w0 m) (hs:CM B S m ρ a.eval) {f:Nat} {xs:Array Operand} {l8:List AP} (he:D5 xs.toList l8=true) (hex : ∀ w:World,(callFunc (num f) (xs.map a.eval)).run P w = .ok (.enter (num f) (xs.map a.eval)) w->(execOp a.eval o).run P w = .ok (.enter (num f) (xs.map a.eval)) w) {vs:List AV} {r:AV} (hv:(l8.map ρ).mapM (CW m.own true)=some vs) (hr:C.pure f vs=some r):CQ B S w0 P o a m (.val r):=by
 obtain ⟨hl,hx⟩:=Q4 hs he;have ft:(xs.map a.eval)=(xs.toList.map a.eval).toArray:=by cases xs;simp
 rw[ft]at hex;refine mJ hC hm (us:=xs.toList.map a.eval) (as:=l8.map ρ) (by simp [hl]) (λ j v c h1 h2 => ?_) hex hv hr;rw[List.getElem?_map]at h1 h2;cases kj:xs.toList[j]? with
 | none=>simp [kj]at h1
 | some x =>
  cases ov:l8[j]? with
  | none=>simp [ov]at h2
  | some y =>
   simp only[kj,ov,Option.map_some,Option.some.injEq]at h1 h2;subst h1 h2;exact hx j x y kj ov
theorem Uk {C:Cl} (hC:GM P num C) (hm:BP B S w0 m) (hs:CM B S m ρ a.eval) {f:Nat} {l8:List AP} (h:BD P num o.op (.call f l8)=true) {vs:List AV} {r:AV} (hv:(l8.map ρ).mapM (CW m.own true)=some vs) (hr:C.pure f vs=some r):CQ B S w0 P o a m (.val r):=by
 obtain ⟨xs,ts,j9,he⟩:=dT h;exact mI hC hm hs he (λ w h=>ZM j9 h) hv hr
theorem bV {C:Cl} (hC:GM P num C) (hm:BP B S w0 m) (hs:CM B S m ρ a.eval) {f:Nat} {l8:List AP} (h:BD P num o.op (.c9 f l8)=true) {r:AV} {k6:AH} (hr:C.df f (l8.map ρ) m.own=some (r,k6)):CQ B S w0 P o a m (.ct r k6):=by
 obtain ⟨xs,ts,j9,he⟩:=AeY h;obtain ⟨hl,hx⟩:=Q4 hs he;have ft:(xs.map a.eval)=(xs.toList.map a.eval).toArray:=by cases xs;simp
 have fb:=hC.df f (l8.map ρ) m.own r k6 hr B S w0 m (xs.toList.map a.eval) rfl hm (by simp [hl]) (λ j c v hc hv=>by
  rw[List.getElem?_map]at hc hv;cases kj:xs.toList[j]? with
  | none=>simp [kj]at hv
  | some x =>
   cases ov:l8[j]? with
   | none=>simp [ov]at hc
   | some y =>
    simp [kj]at hv;simp [ov]at hc;subst hv hc;exact hx j x y kj ov)
 intro K Q hK;unfold Oper.wp;rw[ZM j9 (hC.oy f _ _ _ hr _ _),ft];refine Calls.mono fb λ e w' ⟨u,m',iv,hw,j6,mc,fq,s9⟩ => ?_
 subst iv hw;exact hK u m' j6 mc fq s9
theorem Sp (hm:BP B S w0 m) {w':World} (hb:Below m.w.heap.size m.w w') (s:Nat) (b:DR) (gg:Option Nat) (hz : ∀ x∈b.es,x.length=b.a6)
  (hg:match gg with|none=>b.es=[]|some g=>m.w.heap.size<=g /\ ∃ arr e,w'.heap[g]? = some (.cells arr e (0,0)) /\ ∀ i cs,b.es[i]? = some cs -> ∀ j c,cs[j]? = some c -> ∃ u,arr[i*b.a6+j]? = some u/\CC B S ⟨e9 m s gg,m.own.put s ((m.own s).new b),w'⟩ c u) :
  BP B S w0 ⟨e9 m s gg,m.own.put s ((m.own s).new b),w'⟩/\DG B S m ⟨e9 m s gg,m.own.put s ((m.own s).new b),w'⟩:=by
 have hν : ∀ s' t',live m s' t'->e9 m s gg s' t'=m.ν s' t':=λ s' t' hl=>by
  unfold e9;rw[if_neg];rintro ⟨rfl,rfl⟩
  exact YY hm _ hl
 have lv : ∀ g,gg=some g->m.w.heap.size<=g:=λ g e=>by subst e;exact hg.1
 have he:DG B S m ⟨e9 m s gg,m.own.put s ((m.own s).new b),w'⟩:=by
  refine Q9 hm hb.size (λ k hk _=>hb.block k hk) (λ s' => ?_) (λ s' t' b' ht j7 => ?_) (λ s' t' g hl du g9 => ?_)
  ·rw[KN];split
   ·rename_i h;subst h;omega
   ·exact Nat.le_refl _
  ·rw[FS]at j7
   rw[if_neg (by rintro ⟨rfl,rfl⟩;omega)]at j7;refine ⟨b',j7,rfl,hν s' t' ⟨b',j7⟩,λ g ar e' du ha=>⟨ar,?_,rfl⟩⟩;exact (hb.block g (Array.getElem?_eq_some_iff.1 ha).1).trans ha
  ·obtain ⟨b',j7⟩:=hl
   rw[FS]at j7;by_cases h:s'=s/\t'=m.own.e8 s
   ·simp only[e9,if_pos h]at du
    have:=lv g du
    omega
   ·rw[if_neg h]at j7
    exact ⟨s',t',⟨b',j7⟩,by rw[<-hν s' t' ⟨b',j7⟩];exact du⟩
 refine ⟨⟨hm.below.trans (hb.mono hm.size),Nat.le_trans hm.size hb.size,λ s' t' ht => ?_,λ s' t' b' j7 => ?_,λ s1 t1 s2 t2 b1 b2 g h1 h2 g1 g2 => ?_⟩,he⟩
 ·rw[KN]at ht
  rw[FS,if_neg]
  ·refine hm.fresh s' t' ?_
   split at ht
   ·rename_i h;subst h;omega
   ·exact ht
  ·rintro ⟨rfl,rfl⟩
   simp at ht;omega
 ·rw[FS]at j7
  by_cases h:s'=s/\t'=m.own.e8 s
  ·rw[if_pos h]at j7
   obtain rfl:b=b':=by simpa using j7
   refine ⟨hz,?_⟩;show match e9 m s gg s' t' with|none=>_|some g=>_
   rw[show e9 m s gg s' t'=gg by simp [e9,h]];cases gg with
   | none=>exact hg
   | some g=>exact ⟨Nat.le_trans hm.size hg.1,hg.2⟩
  ·rw[if_neg h]at j7
   obtain ⟨h1,h2⟩:=hm.c7 s' t' b' j7;refine ⟨h1,?_⟩;show match e9 m s gg s' t' with|none=>_|some g=>_
   rw[hν s' t' ⟨b',j7⟩];cases hv:m.ν s' t' with
   | none=>rw[hv]at h2;exact h2
   | some g =>
    rw[hv]at h2;obtain ⟨h3,ar,e',h4,h5⟩:=h2;refine ⟨h3,ar,e',(hb.block g (Array.getElem?_eq_some_iff.1 h4).1).trans h4,λ i cs hi j c hj => ?_⟩;obtain ⟨u,hu,u7⟩:=h5 i cs hi j c hj;exact ⟨u,hu,he.cc u7⟩
 ·rw[FS]at h1 h2
  have lt : ∀ s' t' b',m.own.get s' t'=some b'->e9 m s gg s' t'=some g->g<m.w.heap.size:=λ s' t' b' j7 du=>by
   rw[hν s' t' ⟨b',j7⟩]at du;obtain ⟨_,ar,e',h4⟩:=hm.ge ⟨b',j7⟩ du;exact (Array.getElem?_eq_some_iff.1 h4).1
  have at_ : ∀ s' t',s'=s/\t'=m.own.e8 s->e9 m s gg s' t'=some g->m.w.heap.size<=g:=λ s' t' h du=>by
   simp only[e9,if_pos h]at du;exact lv g du
  by_cases p1:s1=s/\t1=m.own.e8 s<;>by_cases p2:s2=s/\t2=m.own.e8 s
  ·exact ⟨p1.1.trans p2.1.symm,p1.2.trans p2.2.symm⟩
  ·rw[if_neg p2]at h2
   have:=lt s2 t2 b2 h2 g2
   have:=at_ s1 t1 p1 g1
   omega
  ·rw[if_neg p1]at h1
   have:=lt s1 t1 b1 h1 g1
   have:=at_ s2 t2 p2 g2
   omega
  ·rw[if_neg p1]at h1
   rw[if_neg p2]at h2;exact hm.inj s1 t1 s2 t2 b1 b2 g h1 h2 (by rw[<-hν s1 t1 ⟨b1,h1⟩];exact g1) (by rw[<-hν s2 t2 ⟨b2,h2⟩];exact g2)
theorem Uo {C:Cl} (hC:GM P num C) (hm:BP B S w0 m) (hs:CM B S m ρ a.eval) {s f:Nat} {l8:List AP} (h:BD P num o.op (.s8 s f l8)=true) {vs:List AV} (hv:(l8.map ρ).mapM (OH m.own true)=some vs) {z:Nat} {es:List (List AV)} (hr:OT (C.df f vs AH.emp)=some (z,es)) :
  CQ B S w0 P o a m (.new s ⟨z,es⟩ (λ t => .row s t z 0 es.length)):=by
 obtain ⟨xs,ts,j9,he⟩:=dT (Ae0 h);obtain ⟨s0,t0,o',b0,Pq,l9,rfl,m5⟩:=So hr;obtain ⟨hl,hx⟩:=Q4 hs he;obtain ⟨fr,jz⟩:=O6 _ hv;have ft:(xs.map a.eval)=(xs.toList.map a.eval).toArray:=by cases xs;simp
 have jt : ∀ (j:Nat) (c:AV) (v:Value),vs[j]? = some c->(xs.toList.map a.eval)[j]? = some v->CV m.w.heap.size (safe B S m false) ⟨λ_ _=>none,AH.emp,m.w⟩ c v:=by
  intro j c v hc tn;rw[List.getElem?_map]at tn;cases kj:xs.toList[j]? with
  | none=>simp [kj]at tn
  | some x =>
   simp [kj]at tn;subst tn;have db:j<l8.length:=by rw[<-hl];exact (zS kj).1
   obtain ⟨y,hy,dp⟩:=jz j (ρ l8[j]) (by rw[List.getElem?_map,zE db];rfl);rw[hc]at hy;obtain rfl:c=y:=by simpa using hy
   have s9:=hx j x l8[j] kj (zE db);have hN:(ρ l8[j] = .nil/\c = .nil)\/CW m.own true (ρ l8[j])=some c:=by
    cases e:ρ l8[j] with
    | nil=>rw[e]at dp;exact .inl ⟨rfl,(Option.some.inj dp).symm⟩
    | _=>rw[e]at dp;exact .inr dp
   rcases hN with ⟨e1,rfl⟩|dp
   ·rw[e1]at s9
    rw[PU s9];exact .ca (.one .nil)
   have oc:=ZV hm true (safe m.w.heap.size (safe B S m false) ⟨λ_ _=>none,AH.emp,m.w⟩) (λ l b hb yd=>by
    cases l with
    | false=>exact .inl ⟨yd,hb⟩
    | true=>exact .inr (.inr ⟨rfl,hb⟩)) (λ s t g jj hg=>by
    obtain ⟨_,arr,e,hh⟩:=hm.ge jj hg;exact .inr (.inr ⟨rfl,(Array.getElem?_eq_some_iff.1 hh).1⟩)) dp s9
   exact .ca (DA.ca (m:=⟨λ_ _=>none,AH.emp,m.w⟩) oc)
 have hm0:BP m.w.heap.size (safe B S m false) m.w ⟨λ_ _=>none,AH.emp,m.w⟩:=⟨Below.refl _ _,Nat.le_refl _,λ_ _ _=>rfl,(λ s t b h=>by cases h),(λ_ _ _ _ _ _ _ h=>by cases h)⟩;have fb:=hC.df f vs AH.emp _ o' Pq m.w.heap.size (safe B S m false) m.w ⟨λ_ _=>none,AH.emp,m.w⟩ (xs.toList.map a.eval) rfl hm0 (by rw[<-fr];simp [hl]) jt;intro K Q hK;unfold Oper.wp;rw[ZM j9 (hC.oy f _ _ _ Pq _ _),ft];refine Calls.mono fb λ e w' ⟨u,m',iv,hw,j6,mc,Pk,s9⟩ => ?_
 subst iv hw;have iu:Below m.w.heap.size m.w m'.w:=mc.below;rw[<-j6]at l9;obtain ⟨hz,ng⟩:=mc.c7 s0 t0 b0 l9;obtain ⟨ad,cap,rfl,ht,cj,oe,ha,hb⟩:=SP s9;obtain ⟨gd,bn⟩:=hb b0 l9;subst gd;have hold : ∀ s t g,live m s t->m.ν s t=some g->g<m.w.heap.size:=λ s t g jj hg=>by
  obtain ⟨_,arr,e,hh⟩:=hm.ge jj hg;exact (Array.getElem?_eq_some_iff.1 hh).1
 have Ca : ∀ s' t' g,live ⟨e9 m s (m'.ν s0 t0),m.own.put s ((m.own s).new ⟨b0.a6,b0.es⟩),m'.w⟩ s' t'->e9 m s (m'.ν s0 t0) s' t'=some g->g<m.w.heap.size\/m'.ν s0 t0=some g:=λ s' t' g jj hg=>by
  obtain ⟨b',j7⟩:=jj;rw[FS]at j7;by_cases g8:s'=s/\t'=m.own.e8 s
  ·simp only[e9,if_pos g8]at hg
   exact Or.inr hg
  ·rw[if_neg g8]at j7
   simp only[e9,if_neg g8]at hg;exact Or.inl (hold s' t' g ⟨b',j7⟩ hg)
 have hR : ∀ b,b<m'.w.heap.size->safe m.w.heap.size (safe B S m false) m' false b->safe B S ⟨e9 m s (m'.ν s0 t0),m.own.put s ((m.own s).new ⟨b0.a6,b0.es⟩),m'.w⟩ false b:=λ b Bi yd=>by
  rcases yd with ⟨h1,h2⟩|⟨h1,h2⟩|⟨h1,_⟩
  ·rcases h1 with h1|⟨h1,h3⟩|⟨h1,_⟩
   ·exact .inl h1
   ·refine .inr (.inl ⟨h1,λ s' t' jj hg => ?_⟩)
    obtain ⟨b',j7⟩:=Option.isSome_iff_exists.1 jj;have o3:=j7;rw[FS]at o3;by_cases g8:s'=s/\t'=m.own.e8 s
    ·simp only[e9,if_pos g8]at hg
     rw[hg]at ng;have:=ng.1
     omega
    ·rw[if_neg g8]at o3
     simp only[e9,if_neg g8]at hg;exact h3 s' t' (by rw[o3];rfl) hg
   ·cases h1
  ·refine .inr (.inl ⟨Nat.le_trans hm.size h1,λ s' t' jj hg => ?_⟩)
   rcases Ca s' t' b (Option.isSome_iff_exists.1 jj) hg with h3|h3
   ·omega
   ·exact h2 s0 t0 (by rw[l9];rfl) h3
  ·cases h1
 obtain ⟨se,fq⟩:=Sp hm iu s ⟨b0.a6,b0.es⟩ (m'.ν s0 t0) hz (by
  cases hν:m'.ν s0 t0 with
  | none=>rw[hν]at ng;exact ng
  | some g =>
   rw[hν]at ng hR;obtain ⟨h1,arr,e,h2,h3⟩:=ng;refine ⟨h1,arr,e,h2,λ i cs hi j c hj => ?_⟩;obtain ⟨u,hu,u7⟩:=h3 i cs hi j c hj;refine ⟨u,hu,.rd ?_⟩;have Bj:=KG (XL m5 i cs hi) j c hj;have iy:Rd m'.w (safe m.w.heap.size (safe B S m false) m') c u:=by
    cases u7 with
    | rd h=>exact h
    | _=>unfold A2 at Bj;exact Bj.elim
   exact iy.clean hR Bj)
 refine hK _ ⟨e9 m s (m'.ν s0 t0),m.own.put s ((m.own s).new ⟨b0.a6,b0.es⟩),m'.w⟩ rfl se fq (.ca (.one (.row s (m.own.e8 s) b0.a6 0 b0.es.length ad cap (by show m.own.e8 s<AH.e8 (m.own.put s _) s;rw[KN,if_pos rfl];omega) cj oe ha λ b1 uf => ?_)));have Fg:(m.own.put s ((m.own s).new ⟨b0.a6,b0.es⟩)).get s (m.own.e8 s)=some b1:=uf;rw[FS,if_pos ⟨rfl,rfl⟩]at Fg;obtain rfl:=Option.some.inj Fg;refine ⟨rfl,?_⟩;rcases bn with h0|⟨g,arr,e,hg,kr,hh,hle⟩
 ·exact .inl h0
 ·exact .inr ⟨g,arr,e,by simp [e9,hg],kr,hh,hle⟩
theorem lT {p:Bool} {f g:Nat} {cs:List AV} {v:Value} (h:CV B S m (.fn p f g cs) v) (hp:p=false\/cs=[]) : ∃ vs:List Value,v = .func (.func g) #[] vs.toArray/\CL B S m cs vs:=by
 cases h with
 | ca h=>cases h with
  | one h=>cases h with
   | rd h=>cases h
  | fn p f g cs vs hp h=>exact ⟨vs,rfl,h⟩
  | ub f g cs vs k8 h =>
   rcases hp with hp|hp
   ·cases hp
   ·exact absurd hp k8
theorem Wp {f g:Nat} {cs:List AV} {v:Value} (h:CV B S m (.fn true f g cs) v) (k8:cs≠[]) : ∃ vs:List Value,v = .func (.func g) #[.agg vs.toArray] #[]/\CL B S m cs vs:=by
 cases h with
 | ca h=>cases h with
  | one h=>cases h with
   | rd h=>cases h
  | fn p f g cs vs hp h=>exact absurd (hp rfl) k8
  | ub f g cs vs k8 h=>exact ⟨vs,rfl,h⟩
theorem uG {f:Nat} {x:Operand} {xs:Array Operand} {ts:Array TypeId} {vs:Array Value} (j9:o.op = .call ⟨.value x,xs,ts⟩) (hx:a.eval x = .func (.func f) #[] vs) {w:World} (h:(callFunc f (xs.map a.eval++vs)).run P w = .ok (.enter f (xs.map a.eval++vs)) w):(execOp a.eval o).run P w = .ok (.enter f (xs.map a.eval++vs)) w:=by
 simp [execOp,j9,resolve,Deferred.ofValue,hx,invoke];exact h
theorem Up {C:Cl} (hC:GM P num C) (hm:BP B S w0 m) (hs:CM B S m ρ a.eval) {x':AP} {l8:List AP} (h:BD P num o.op (.m4 x' l8)=true) {f:Nat} {cs:List AV} (hf:ρ x' = .fn false f (num f) cs) {r:AV} {k6:AH} (hr:C.df f (l8.map ρ++cs) m.own=some (r,k6)):CQ B S w0 P o a m (.ct r k6):=by
 obtain ⟨x,xs,ts,j9,mj,he⟩:=dU h;obtain ⟨hl,hx⟩:=Q4 hs he;obtain ⟨vs,hv,m5⟩:=lT (hf ▸ hs x x' mj) (.inl rfl);have ft:(xs.map a.eval++vs.toArray)=(xs.toList.map a.eval++vs).toArray:=by cases xs;simp
 have fb:=hC.df f (l8.map ρ++cs) m.own r k6 hr B S w0 m (xs.toList.map a.eval++vs) rfl hm (by simp [hl,m5.1]) (λ j c v hc hv=>by
  by_cases hj:j<l8.length
  ·rw[List.getElem?_append_left (by simpa using hj),List.getElem?_map]at hc
   rw[List.getElem?_append_left (by simpa [hl] using hj),List.getElem?_map]at hv;have Pr:j<xs.toList.length:=by rw[hl];exact hj
   rw[zE hj]at hc;rw[zE Pr]at hv;simp only[Option.map_some,Option.some.injEq]at hc hv;subst hc hv;exact hx j _ _ (zE Pr) (zE hj)
  ·rw[List.getElem?_append_right (by simpa using hj),List.length_map]at hc
   rw[List.getElem?_append_right (by simpa [hl] using hj),List.length_map,hl]at hv;exact .ca (.one (m5.2 _ c v hc hv)))
 intro K Q hK;unfold Oper.wp;rw[uG j9 hv (hC.oy f _ _ _ hr _ _),ft];refine Calls.mono fb λ e w' ⟨u,m',iv,hw,j6,mc,fq,s9⟩ => ?_
 subst iv hw;exact hK u m' j6 mc fq s9
theorem Um {C:Cl} (hC:GM P num C) (hm:BP B S w0 m) (hs:CM B S m ρ a.eval) {x':AP} {l8:List AP} (h:BD P num o.op (.m4 x' l8)=true) {f:Nat} (hf:ρ x' = .fn true f (num f) []) {vs:List AV} {r:AV} (hv:(l8.map ρ).mapM (CW m.own true)=some vs) (hr:C.pure f vs=some r):CQ B S w0 P o a m (.val r):=by
 obtain ⟨x,xs,ts,j9,mj,he⟩:=dU h;obtain ⟨us,hu,m5⟩:=lT (hf ▸ hs x x' mj) (.inr rfl);have hu0:us=[]:=List.eq_nil_of_length_eq_zero (by rw[<-m5.1];rfl);subst hu0;refine mI hC hm hs he (λ w h => ?_) hv hr;have:=uG (P:=P) (w:=w) j9 hu (by simpa using h)
 simpa using this
theorem AgK {f:Nat} {x:Operand} {xs:Array Operand} {ts:Array TypeId} {u:Value} (j9:o.op = .call ⟨.value x,xs,ts⟩) (hx:a.eval x = .func (.func f) #[u] #[]) {w:World} (h:(callFunc f (#[u]++xs.map a.eval)).run P w = .ok (.enter f (#[u]++xs.map a.eval)) w):(execOp a.eval o).run P w = .ok (.enter f (#[u]++xs.map a.eval)) w:=by
 simp [execOp,j9,resolve,Deferred.ofValue,hx,invoke];exact h
theorem Ul {C:Cl} (hC:GM P num C) (hm:BP B S w0 m) (hs:CM B S m ρ a.eval) {x':AP} {l8:List AP} (h:BD P num o.op (.m4 x' l8)=true) {f:Nat} {c:AV} {cs:List AV} (hf:ρ x' = .fn true f (num f) (c::cs)) {vs:List AV} {r:AV} (hv:(AV.agg (c::cs)::l8.map ρ).mapM (CW m.own true)=some vs) (hr:C.pure f vs=some r):CQ B S w0 P o a m (.val r):=by
 obtain ⟨x,xs,ts,j9,mj,he⟩:=dU h;obtain ⟨us,hu,m5⟩:=Wp (hf ▸ hs x x' mj) (by simp);obtain ⟨hl,hx⟩:=Q4 hs he;have ft:(#[Value.agg us.toArray]++xs.map a.eval)=(Value.agg us.toArray::xs.toList.map a.eval).toArray:=by cases xs;simp
 refine mJ hC hm (us:=Value.agg us.toArray::xs.toList.map a.eval) (as:=AV.agg (c::cs)::l8.map ρ) (by simp [hl]) (λ j v c' h1 h2 => ?_) (λ w h=>by
  rw[<-ft]at h ⊢;exact AgK j9 hu h) hv hr
 cases j with
 | zero =>
  simp only[List.getElem?_cons_zero,Option.some.injEq]at h1 h2;subst h1 h2;exact .ca (.agg _ _ m5)
 | succ j =>
  rw[List.getElem?_cons_succ,List.getElem?_map]at h1 h2;cases kj:xs.toList[j]? with
  | none=>simp [kj]at h1
  | some x =>
   cases ov:l8[j]? with
   | none=>simp [ov]at h2
   | some y =>
    simp only[kj,ov,Option.map_some,Option.some.injEq]at h1 h2;subst h1 h2;exact hx j x y kj ov
theorem Rd.to1 {w:World} {R R':Bool->Nat->Prop} (hR : ∀ l b,b<w.heap.size->R l b -> ∀ l',R' l' b) {c:AV} {v:Value} (h:Rd w R c v) (hq:F3 c=true):Rd w R' (TS c) v:=by
 cases h with
 | int k n=>exact .int k n
 | bool b=>exact .bool b
 | str s=>simp [F3]at hq
 | lf=>simp [F3]at hq
 | emp=>simp [F3]at hq
 | jb l a cap=>exact .jb false a cap
 | sl l es b o a6 cap u k8 hp h1 x9 hz m5 hr =>
  obtain ⟨e,c,he,bh⟩:=U4 k8 hp hz;have hb:b<w.heap.size:=QW (m5 0 e he 0 c bh);exact .sl false es b o a6 cap u k8 hp (hR l b hb h1 false) x9 hz m5 λ i e he j c hj=>(hr i e he j c hj).mono (λ l b hb h=>hR l b hb h l) (λ_ _ _ _=>rfl)
theorem Rd.yo {w:World} {R R':Bool->Nat->Prop} (hR : ∀ b,b<w.heap.size->R false b->R' true b) {c:AV} {v:Value} (h:Rd w R c v) (hc:A2 c) (hf:T4 c):Rd w R' (VB c) v:=by
 cases h with
 | int k n=>exact .int k n
 | bool b=>exact .bool b
 | str s=>exact hf.elim
 | lf=>exact hf.elim
 | emp=>exact hf.elim
 | jb l a cap=>exact .jb true a cap
 | sl l es b o a6 cap u k8 hp h1 x9 hz m5 hr =>
  unfold A2 at hc;obtain ⟨rfl,hc⟩:=hc;obtain ⟨e,c,he,bh⟩:=U4 k8 hp hz;have hb:b<w.heap.size:=QW (m5 0 e he 0 c bh);refine .sl true es b o a6 cap u k8 hp (hR b hb h1) x9 hz m5 λ i e he j c hj => ?_
  have Cf:=hf e (zM he) c (zM hj);have Co:=hr i e he j c hj;generalize u i j=vv at Co ⊢;cases Co<;>first|exact .int _ _|exact .bool _|(simp [sL]at Cf)
theorem eB : ∀ l:List AV,LB l=l.map GS
 | []=>by simp [LB]
 | c::r=>by rw[LB,eB r];rfl
theorem rG : ∀ l:List (List AV),OC l=l.map λ e=>e.map GS
 | []=>by simp [OC]
 | c::r=>by rw[OC,rG r,eB];rfl
theorem Rd.yp {w:World} {R R':Bool->Nat->Prop} (hR : ∀ b,b<w.heap.size->R false b->R' true b) {c:AV} {v:Value} (h:Rd w R c v):A2 c->Rd w R' (GS c) v:=by
 induction h with
 | int k n=>intro _;exact .int k n
 | bool b=>intro _;exact .bool b
 | str s=>intro _;exact .str s
 | lf=>intro _;exact .lf
 | emp b a cap h=>intro _;exact .emp b a cap h
 | jb l a cap=>intro _;exact .jb true a cap
 | sl l es b o a6 cap u k8 hp h1 x9 hz m5 hr ih =>
  intro hc;unfold A2 at hc;obtain ⟨rfl,hc⟩:=hc;obtain ⟨e,c,he,bh⟩:=U4 k8 hp hz;have hb:b<w.heap.size:=QW (m5 0 e he 0 c bh);have x8 : ∀ (i:Nat) (e':List AV),(es.map λ e:List AV=>e.map GS)[i]? = some e' -> ∃ e,es[i]? = some e/\e'=e.map GS:=λ i e' h=>by
   rw[List.getElem?_map]at h;cases hi:es[i]? with
   | none=>simp [hi]at h
   | some e=>exact ⟨e,rfl,by simpa [hi] using h.symm⟩
  have Ff : ∀ (e:List AV) (j:Nat) (c':AV),(e.map GS)[j]? = some c' -> ∃ c,e[j]? = some c/\c'=GS c:=λ e j c' h=>by
   rw[List.getElem?_map]at h;cases hi:e[j]? with
   | none=>simp [hi]at h
   | some c=>exact ⟨c,rfl,by simpa [hi] using h.symm⟩
  have key:=Rd.sl (w:=w) (R:=R') true (es.map λ e:List AV=>e.map GS) b o a6 cap u (by simpa using k8) hp (hR b hb h1) (by simpa using x9)
   (λ e' iv=>by
    obtain ⟨e,he,rfl⟩:=List.mem_map.1 iv;rw[List.length_map];exact hz e he)
   (λ i e' hi j c' hj=>by
    obtain ⟨e,he,rfl⟩:=x8 i e' hi;obtain ⟨c,zm,rfl⟩:=Ff e j c' hj;exact m5 i e he j c zm)
   (λ i e' hi j c' hj=>by
    obtain ⟨e,he,rfl⟩:=x8 i e' hi;obtain ⟨c,zm,rfl⟩:=Ff e j c' hj;exact ih i e he j c zm (KG (XL hc i e he) j c zm))
  rw[List.length_map]at key;rw[GS,rG];exact key
theorem Un {C:Cl} (hC:GM P num C) (hm:BP B S w0 m) (hs:CM B S m ρ a.eval) {f:Nat} {l8:List AP} (h:BD P num o.op (.j5 f l8)=true) (hq:(l8.map ρ).all dq=true) {r:AV} (hr:C.pure f ((l8.map ρ).map wu)=some r) (Lb:IV r\/QL r):CQ B S w0 P o a m (.val (LC r)):=by
 obtain ⟨xs,ts,j9,he⟩:=dT (AeZ h);obtain ⟨hl,hx⟩:=Q4 hs he;have ft:(xs.map a.eval)=(xs.toList.map a.eval).toArray:=by cases xs;simp
 have hR : ∀ l b,b<m.w.heap.size->safe B S m l b -> ∀ l',safe m.w.heap.size (safe B S m true) ⟨λ_ _=>none,AH.emp,m.w⟩ l' b:=λ l b hb h l' => .inl ⟨gL h,hb⟩
 have hcell : ∀ (c:AV) (v:Value),CC B S m c v->F3 c=true->Rd m.w (safe m.w.heap.size (safe B S m true) ⟨λ_ _=>none,AH.emp,m.w⟩) (TS c) v:=λ c v hc hd=>by
  cases hc with
  | rd hr=>exact hr.to1 hR hd
  | nil=>exact .jb false none 0
  | row=>simp [F3]at hd
  | ptr=>simp [F3]at hd
  | o5=>simp [F3]at hd
 have jt : ∀ (j:Nat) (c:AV) (v:Value),((l8.map ρ).map wu)[j]? = some c->(xs.toList.map a.eval)[j]? = some v->CA m.w.heap.size (safe B S m true) ⟨λ_ _=>none,AH.emp,m.w⟩ c v:=by
  intro j c v hc tn;rw[List.getElem?_map,List.getElem?_map]at hc;rw[List.getElem?_map]at tn;cases kj:xs.toList[j]? with
  | none=>simp [kj]at tn
  | some x =>
   cases ov:l8[j]? with
   | none=>simp [ov]at hc
   | some y =>
    simp [kj]at tn;simp [ov]at hc;subst tn hc;have s9:=hx j x y kj ov;have hd:dq (ρ y)=true:=List.all_eq_true.1 hq _ (List.mem_map_of_mem (zM ov));generalize ρ y=cy at s9 hd ⊢;generalize a.eval x=vx at s9 ⊢;cases s9 with
    | any=>simp [dq,F3]at hd
    | e6=>simp [dq,F3]at hd
    | ca lu =>
     cases lu with
     | one Pg =>
      have jv:F3 cy=true/\wu cy=TS cy:=by
       cases Pg with
       | rd hr=>cases hr<;>exact ⟨hd,rfl⟩
       | _=>exact ⟨hd,rfl⟩
      rw[jv.2];exact .one (.rd (hcell _ _ Pg jv.1))
     | agg cs vs m5 =>
      refine .agg (cs.map TS) vs ⟨by simpa using m5.1,λ k c' v' q6 mg => ?_⟩;rw[List.getElem?_map]at q6;cases ju:cs[k]? with
      | none=>simp [ju]at q6
      | some c0 =>
       simp [ju]at q6;subst q6;exact .rd (hcell c0 v' (m5.2 k c0 v' ju mg) (List.all_eq_true.1 hd _ (zM ju)))
     | fn=>simp [dq,F3]at hd
     | ub=>simp [dq,F3]at hd
 have fb:=hC.pure f _ r hr (safe B S m true) m.w (xs.toList.map a.eval) (by simp [hl]) jt;intro K Q hK;unfold Oper.wp;rw[ZM j9 (hC.ua f _ r hr _ _),ft];refine Calls.mono fb λ e w' ⟨u,iv,iu,s9,m5⟩ => ?_
 subst iv;obtain ⟨mc,fq⟩:=grow hm iu;refine hK u ⟨m.ν,m.own,w'⟩ rfl mc fq ?_;have iq : ∀ b,b<w'.heap.size->safe m.w.heap.size (safe B S m true) ⟨λ_ _=>none,AH.emp,w'⟩ false b->safe B S ⟨m.ν,m.own,w'⟩ true b:=λ b hb yd=>by
  rcases yd with ⟨h1,h2⟩|⟨h1,_⟩|⟨h1,_⟩
  ·exact fq.Ai true b h2 h1
  ·refine .inr (.inl ⟨Nat.le_trans hm.size h1,λ s t jj hg => ?_⟩)
   obtain ⟨b',j7⟩:=Option.isSome_iff_exists.1 jj;obtain ⟨_,arr,e,hh⟩:=hm.ge ⟨b',j7⟩ hg;have:=(Array.getElem?_eq_some_iff.1 hh).1
   omega
  ·cases h1
 by_cases jy:IV r
 ·rw[eE jy]
  rcases bG s9 m5 with oc|⟨cs,vs,rfl,_⟩
  ·rcases oc with iy|⟨cs,vs,rfl,rfl,fr,hh⟩
   ·have e1:yi r=VB r/\T4 r:=by cases iy<;>exact ⟨rfl,jy⟩
    rw[show B9.valOf (.val (yi r)) m.own=yi r from rfl,e1.1];exact .ca (.one (.rd (iy.yo iq m5 e1.2)))
   ·unfold A2 at m5
    refine .ca (.agg (cs.map VB) vs ⟨by simpa using fr,λ k c' v' q6 mg => ?_⟩);rw[List.getElem?_map]at q6;cases ju:cs[k]? with
    | none=>simp [ju]at q6
    | some c0 =>
     simp [ju]at q6;subst q6;exact .rd ((hh k c0 v' ju mg).yo iq (KG m5 k c0 ju) (jy c0 (zM ju)))
  ·exact jy.elim
 ·rw[eD jy]
  have hd:=Lb.resolve_left jy;have gu : ∀ {r:AV} {v:Value},DA w' (safe m.w.heap.size (safe B S m true) ⟨λ_ _=>none,AH.emp,w'⟩) r v->A2 r->CA B S ⟨m.ν,m.own,w'⟩ (HV r) v:=λ{r v} oc m5=>by
   rcases oc with iy|⟨cs,vs,rfl,rfl,fr,hh⟩
   ·have e1:HV r=GS r:=by cases iy<;>rfl
    rw[e1];exact .one (.rd (iy.yp iq m5))
   ·unfold A2 at m5
    rw[show HV (.agg cs) = .agg (LB cs) from rfl,eB];refine .agg (cs.map GS) vs ⟨by simpa using fr,λ k c' v' q6 mg => ?_⟩;rw[List.getElem?_map]at q6;cases ju:cs[k]? with
    | none=>simp [ju]at q6
    | some c0 =>
     simp [ju]at q6;subst q6;exact .rd ((hh k c0 v' ju mg).yp iq (KG m5 k c0 ju))
  rcases bG s9 m5 with oc|⟨cs,vs,rfl,rfl,fr,hh⟩
  ·have e1:J2 r=HV r:=by
    rcases oc with iy|⟨cs,vs,rfl,_⟩
    ·cases iy<;>rfl
    ·rfl
   rw[show B9.valOf (.val (J2 r)) m.own=J2 r from rfl,e1];exact .ca (gu oc m5)
  ·unfold A2 at m5
   rw[show B9.valOf (.val (J2 (.e6 cs))) m.own = .e6 (cs.map HV) from rfl];refine .e6 (cs.map HV) vs (by simpa using fr) λ k c' v' q6 mg => ?_
   rw[List.getElem?_map]at q6;cases ju:cs[k]? with
   | none=>simp [ju]at q6
   | some c0 =>
    simp [ju]at q6;subst q6;exact gu (hh k c0 v' ju mg) (KG m5 k c0 ju)
end
end Go.b8
namespace Go.b8
open Go.RowKit
section
variable {B:Nat} {S:Nat->Prop} {w0:World} {m:M}
variable {P:Program} {num:Nat->Nat} {o:Oper} {a:Act} {ρ:AP->AV} {C:Cl} {a8:List Nat}
theorem Ys (hm:BP B S w0 m) (hs:CM B S m ρ a.eval) {mx:Bool} {l8:List AP} (h:BD P num o.op (.mm mx l8)=true) {v r:AV} {l:List AV} (hx:l8.map ρ=v::l) (hv:J4 mx v l=some r):CQ B S w0 P o a m (.val r):=by
 by_cases hi : ∃ k n,v = .int k n
 ·exact Yr hm hs h hx hv hi
 ·cases l with
  | cons u q =>
   simp only[J4]at hv;exfalso;cases v<;>first|(exact hi ⟨_,_,rfl⟩)|(simp [O8]at hv)
  | nil =>
   simp only[J4,Option.some.injEq]at hv;subst hv;obtain ⟨xs,ts,j9,he⟩:=qK h;cases l8 with
   | nil=>simp at hx
   | cons y yr =>
    simp only[List.map_cons,List.cons.injEq,List.map_eq_nil_iff]at hx;obtain ⟨rfl,rfl⟩:=hx;obtain ⟨xl⟩:=xs;cases xl with
    | nil=>simp [D5]at he
    | cons x xr =>
     simp only[D5,Bool.and_eq_true]at he;cases xr with
     | cons=>simp [D5]at he
     | nil =>
      refine EB hm (u:=a.eval x) ?_ (hs x y he.1);cases mx<;>simp [execOp,j9,resolve,invoke,builtin,Builtin.min_,Builtin.max_]
theorem pR (o:AH) (l:List Nat) (s t:Nat) (b:DR) (h:(o.l6 l).get s t=some b):o.get s t=some b:=by
 induction l with
 | nil=>exact h
 | cons x r ih =>
  unfold AH.get AH.l6 at h;by_cases hs:s=x
  ·simp [hs]at h
  ·simp only[if_neg hs]at h
   exact ih h
theorem Afk {o:AH} {l:List Nat} {s t i j n:Nat} {cs:List AV} (h:(o.l6 l).nv s t i j n=some cs):o.nv s t i j n=some cs:=by
 unfold AH.nv at *;cases hg:(o.l6 l).get s t with
 | none=>simp [hg]at h
 | some b =>
  rw[pR o l s t b hg];simpa [hg] using h
theorem Xx {o:AH} {l:List Nat} {v:AV} {es:List (List AV)} (h:EP (o.l6 l) v=some es):EP o v=some es:=by
 cases v with
 | bj v=>cases v<;>exact h
 | row s t z off len =>
  simp only[EP]at h ⊢;cases hg:(o.l6 l).get s t with
  | none=>simp [hg]at h
  | some b =>
   rw[pR o l s t b hg];simpa [hg] using h
 | _=>exact h
theorem S8 {α β:Type} {f g:α->Option β} (Pl : ∀ x y,f x=some y->g x=some y) : ∀ {l:List α} {l':List β},l.mapM f=some l'->l.mapM g=some l'
 | [],l',h=>by simpa using h
 | x::r,l',h=>by
  simp only[List.mapM_cons,Option.bind_eq_bind,Option.pure_def]at h ⊢;cases hx:f x with
  | none=>simp [hx]at h
  | some y =>
   cases hr:r.mapM f with
   | none=>simp [hx,hr]at h
   | some r' =>
    simp [hx,hr]at h;simp [Pl x y hx,S8 Pl hr,h]
theorem gY (o:AH) (l:List Nat) (b:Bool) : ∀ (d:Nat) (c c':AV),snap (o.l6 l) b d c=some c'->snap o b d c=some c'
 | 0,c,c',h=>by cases c<;>simp_all [snap]
 | d+1,c,c',h=>by
  cases c<;>first|(simp_all [snap];done)|skip
  rename_i s t z off len;simp only[snap]at h ⊢;cases he:EP (o.l6 l) (.row s t z off len) with
  | none=>simp [he]at h
  | some es =>
   simp only[he]at h;rw[Xx he];simp only[Option.map_eq_some_iff]at h ⊢;obtain ⟨es',h1,h2⟩:=h;exact ⟨es',S8 (λ x y hx=>S8 (gY o l b d) hx) h1,h2⟩
theorem vG (o:AH) (l:List Nat) (b:Bool) (c c':AV) (h:CW (o.l6 l) b c=some c'):CW o b c=some c':=by
 cases c<;>first|exact gY o l b 6 _ _ h|skip
 simp only[CW,Option.map_eq_some_iff]at h ⊢;obtain ⟨cs,h1,h2⟩:=h;exact ⟨cs,S8 (gY o l b 6) h1,h2⟩
theorem Ag7 (o:AH) (l:List Nat) (b:Bool) (c c':AV) (h:OH (o.l6 l) b c=some c'):OH o b c=some c':=by
 rcases Classical.em (c = .nil) with rfl|hc
 ·exact h
 ·have e : ∀ o:AH,OH o b c=CW o b c:=λ o=>by cases c<;>first|rfl|exact (hc rfl).elim
  rw[e]at h ⊢;exact vG o l b _ _ h
theorem Afx {o:AH} {l:List Nat} {b:Bool} {xs vs:List AV} (h:xs.mapM (OH (o.l6 l) b)=some vs):xs.mapM (OH o b)=some vs:=S8 (Ag7 o l b) h
theorem Afv {o:AH} {l:List Nat} {b:Bool} {xs vs:List AV} (h:xs.mapM (CW (o.l6 l) b)=some vs):xs.mapM (CW o b)=some vs:=S8 (vG o l b) h
theorem Ahn {own k6:AH} {s t i j:Nat} {vs:List AV} (h:own.ko s t i j vs=some k6):own.put s (k6 s)=k6:=by
 unfold AH.ko at h;cases hg:own.get s t with
 | none=>simp [hg]at h
 | some b =>
  simp only[hg]at h;cases he:b.es[i]? with
  | none=>simp [he]at h
  | some cs =>
   simp only[he]at h;split at h
   ·obtain rfl:=Option.some.inj h
    rw[AH.g7]
   ·cases h
theorem Xv (hC:GM P num C) (hm:BP B S w0 m) (hs:CM B S m ρ a.eval) {Ct:DT} (g6:BD P num o.op Ct=true) {E:B9} (h:c8 C a8 ρ m.own Ct=some E):CQ B S w0 P o a m E:=by
 cases Ct with
 | n0 x=>simp only[c8,Option.some.injEq]at h;subst h;exact Yt hm hs g6
 | v9 s z=>simp only[c8,Option.some.injEq]at h;subst h;exact Za hm g6
 | pick c x y =>
  simp only[c8]at h;split at h
  ·rename_i hc;simp only[Option.some.injEq]at h;subst h;exact mH hm hs g6 hc
  ·rename_i hc;simp only[Option.some.injEq]at h;subst h;exact mH hm hs g6 hc
  ·cases h
 | bin f x y =>
  simp only[c8]at h;split at h
  ·rename_i k n k' n' hx hy
   simp only[Option.map_eq_some_iff]at h;obtain ⟨v,hv,rfl⟩:=h;exact Vr hm hs g6 hx hy hv
  ·cases h
 | beq ne x y =>
  simp only[c8]at h;split at h
  ·rename_i b b' hx hy
   simp only[Option.some.injEq]at h;subst h;exact Vq hm hs g6 hx hy
  ·cases h
 | un f x =>
  simp only[c8,Option.map_eq_some_iff]at h;obtain ⟨v,hv,rfl⟩:=h;exact Yz hm hs g6 hv
 | conv k x =>
  simp only[c8]at h;split at h
  ·rename_i k' n hx
   simp only[Option.some.injEq]at h;subst h;exact Ye hm hs g6 hx
  ·cases h
 | box s x =>
  simp only[c8]at h;split at h
  ·rename_i cs gj
   simp only[Option.some.injEq]at h;subst h;exact Uh hm hs g6 gj
  ·cases h
 | alloc s z=>simp only[c8,Option.some.injEq]at h;subst h;exact Vm hm g6
 | build z ps =>
  simp only[c8,Option.map_eq_some_iff]at h;obtain ⟨cs,gj,rfl⟩:=h;exact Uj hm hs g6 gj
 | b9 s a6 ps =>
  simp only[c8]at h;split at h
  ·rename_i es iw
   split at h
   ·rename_i hz
    simp only[Option.some.injEq]at h;subst h;exact Ui hm hs g6 iw hz
   ·cases h
  ·cases h
 | u6 x off =>
  simp only[c8]at h;split at h
  ·rename_i s t i j hx
   simp only[Option.some.injEq]at h;subst h;exact Yg hm hs g6 hx
  ·rename_i cs hx
   simp only[Option.some.injEq]at h;subst h;exact Acc hm hs g6 hx
  ·cases h
 | oz x off n agg =>
  simp only[c8]at h;split at h
  ·rename_i cs hx
   split at h
   ·rename_i ds hp
    simp only[Option.map_eq_some_iff]at h;obtain ⟨v,hv,rfl⟩:=h;exact Yh hm hs g6 hx hp hv
   ·cases h
  ·cases h
 | q7 arr a6 x i =>
  simp only[c8]at h;split at h
  ·rename_i k n hi
   split at h
   ·rename_i len s t i' j hx
    split at h
    ·rename_i hn
     simp only[Option.some.injEq]at h;subst h;exact Yi hm hs g6 hi hx hn.1 hn.2
    ·cases h
   ·rename_i len cs hx
    split at h
    ·rename_i hn
     simp only[Option.some.injEq]at h;subst h;exact Yj hm hs g6 hi hx hn.1 hn.2
    ·cases h
   ·rename_i s t z off len hx
    split at h
    ·rename_i hn
     simp only[Option.some.injEq]at h;subst h;exact Yk hm hs g6 hi hx hn.1 hn.2.1 hn.2.2
    ·cases h
   ·rename_i l es hx
    split at h
    ·rename_i h0
     split at h
     ·rename_i cs gj
      split at h
      ·rename_i hz
       simp only[Option.some.injEq]at h;subst h;exact Yl hm hs g6 hi hx h0 gj hz
      ·cases h
     ·cases h
    ·cases h
   ·cases h
  ·cases h
 | ld agg n x =>
  simp only[c8]at h;split at h
  ·rename_i s t i j hx
   split at h
   ·rename_i cs gj
    simp only[Option.map_eq_some_iff]at h;obtain ⟨v,hv,rfl⟩:=h;exact Yn hm hs g6 hx (Afk gj) hv
   ·cases h
  ·rename_i cs hx
   split at h
   ·rename_i ds hp
    simp only[Option.map_eq_some_iff]at h;obtain ⟨v,hv,rfl⟩:=h;exact Ym hm hs g6 hx hp hv
   ·cases h
  ·cases h
 | st n x v =>
  simp only[c8]at h;split at h
  ·rename_i s t i j vs hx gm
   split at h
   ·rename_i hn
    simp only[Option.map_eq_some_iff]at h;obtain ⟨k6,ho,rfl⟩:=h;exact mL hm hs g6 hx gm hn ho
   ·cases h
  ·cases h
 | mk s a6 bytes zero l c =>
  simp only[c8]at h;split at h
  ·rename_i kl a' kc b' hl hc
   split at h
   ·rename_i hn
    simp only[Option.some.injEq]at h;subst h;exact Yp hm hs g6 hl hc hn.1 hn.2.1 hn.2.2.1 hn.2.2.2.1 hn.2.2.2.2
   ·cases h
  ·cases h
 | fk a6 x lo hi =>
  simp only[c8]at h;have Nx : ∀ (d:Nat) (y:Option AP) (q:Nat),(match y with|none=>some d|some o=>match ρ o with | .int _ n=>if 0<=n/\n<=d then some n.toNat else none|_=>none)=some q -> ∃ n:Int,G1 ρ d y=some n/\0<=n/\n<=d/\q=n.toNat:=λ d y q hq=>by
   cases y with
   | none=>simp only[Option.some.injEq]at hq;subst hq;exact ⟨d,rfl,by omega,by omega,by simp⟩
   | some y =>
    simp only at hq;cases hy:ρ y with
    | int k n =>
     simp only[hy]at hq;split at hq
     ·rename_i hn
      simp only[Option.some.injEq]at hq;subst hq;exact ⟨n,by simp [G1,hy],hn.1,hn.2,rfl⟩
     ·cases hq
    | _=>simp [hy]at hq
  have Eg : ∀ (y:Option AP) (q:Nat),(match y with|none=>some 0|some o=>match ρ o with | .int _ n=>if 0<=n then some n.toNat else none|_=>none)=some q -> ∃ n:Int,G1 ρ 0 y=some n/\0<=n/\q=n.toNat:=λ y q hq=>by
   cases y with
   | none=>simp only[Option.some.injEq]at hq;subst hq;exact ⟨0,rfl,by omega,by simp⟩
   | some y =>
    simp only at hq;cases hy:ρ y with
    | int k n =>
     simp only[hy]at hq;split at hq
     ·rename_i hn
      simp only[Option.some.injEq]at hq;subst hq;exact ⟨n,by simp [G1,hy],hn,rfl⟩
     ·cases hq
    | _=>simp [hy]at hq
  have Eh : ∀ (y:Option AP) (q:Nat),(match y with|none=>some 0|some o=>match ρ o with | .int _ n=>if n=0 then some 0 else none|_=>none)=some q->G1 ρ 0 y=some 0:=λ y q hq=>by
   cases y with
   | none=>rfl
   | some y =>
    simp only at hq;cases hy:ρ y with
    | int k n =>
     simp only[hy]at hq;split at hq
     ·rename_i hn
      subst hn;simp [G1,hy]
     ·cases hq
    | _=>simp [hy]at hq
  split at h
  ·rename_i l es hx
   split at h
   ·rename_i q1 q2 h1 h2
    split at h
    ·rename_i hq
     simp only[Option.some.injEq]at h;subst h;obtain ⟨n1,b1,c1,rfl⟩:=Eg _ _ h1;obtain ⟨n2,b2,c2,c3,rfl⟩:=Nx _ _ _ h2;exact Yy hm hs g6 hx b1 b2 c1 (by omega) c3 hq.2
    ·cases h
   ·cases h
  ·rename_i hx
   split at h
   ·rename_i q1 q2 h1 h2
    simp only[Option.some.injEq]at h;subst h;exact Yw hm hs g6 hx (Eh _ _ h1) (Eh _ _ h2)
   ·cases h
  ·rename_i s t z off len hx
   split at h
   ·rename_i q1 q2 h1 h2
    split at h
    ·rename_i hq
     simp only[Option.some.injEq]at h;subst h;obtain ⟨n1,b1,c1,rfl⟩:=Eg _ _ h1;obtain ⟨n2,b2,c2,c3,rfl⟩:=Nx _ _ _ h2;exact Yx hm hs g6 hx b1 b2 c1 (by omega) c3 hq.2
    ·cases h
   ·cases h
  ·cases h
 | ext x i =>
  simp only[c8]at h;split at h
  ·rename_i vs hx
   simp only[Option.map_eq_some_iff]at h;obtain ⟨v,hv,rfl⟩:=h;exact Yf hm hs g6 hx hv
  ·cases h
 | len x =>
  simp only[c8]at h;split at h
  ·rename_i n hn
   simp only[Option.some.injEq]at h;subst h;exact Yo hm hs g6 hn
  ·cases h
 | mm mx xs =>
  simp only[c8]at h;split at h
  ·cases h
  ·rename_i v r hx
   simp only[Option.map_eq_some_iff]at h;obtain ⟨q,hq,rfl⟩:=h;exact Ys hm hs g6 hx hq
 | app s a6 bytes x y =>
  simp only[c8]at h;split at h
  ·rename_i ys sz
   split at h
   ·rename_i hz
    split at h
    ·rename_i s' t z len hx
     split at h
     ·rename_i b hb
      split at h
      ·rename_i hn
       obtain ⟨n1,rfl,n3,n4,n5⟩:=hn;simp only[Option.some.injEq]at h;subst h;exact Vo hm hs g6 sz hz hx hb n1 n3 n4 n5
      ·cases h
     ·cases h
    ·rename_i hx
     split at h
     ·rename_i hn
      simp only[Option.some.injEq]at h;subst h;exact Vn hm hs g6 sz hz hx hn.1 hn.2
     ·cases h
    ·cases h
   ·cases h
  ·cases h
 | call f xs =>
  simp only[c8]at h;split at h
  ·rename_i vs gm
   simp only[Option.map_eq_some_iff]at h;obtain ⟨r,hr,rfl⟩:=h;exact Uk hC hm hs g6 (Afv gm) hr
  ·cases h
 | c9 f xs =>
  simp only[c8]at h;split at h
  ·simp only[Option.map_eq_some_iff]at h
   obtain ⟨r,hr,rfl⟩:=h;exact bV hC hm hs g6 ((XC hr).2 m.own λ_ _=>rfl)
  ·simp only[Option.map_eq_some_iff]at h
   obtain ⟨r,hr,rfl⟩:=h;exact bV hC hm hs g6 hr
 | ta ne x =>
  simp only[c8]at h;split at h
  ·rename_i hx
   simp only[Option.some.injEq]at h;subst h;exact XZ hm hs g6 (b:=true) λ v hv=>by rw[hx]at hv;exact ⟨none,0,0,PU hv,rfl⟩
  ·rename_i b hx
   simp only[Option.some.injEq]at h;subst h;exact XZ hm hs g6 (b:=b) λ v hv=>by
    rw[hx]at hv;obtain ⟨ad,c,h1,h2⟩:=lS hv;exact ⟨ad,0,c,h1,h2⟩
  ·rename_i hx
   simp only[Option.some.injEq]at h;subst h;exact XZ hm hs g6 (b:=false) λ v hv=>by rw[hx]at hv;exact Ws hv
  ·rename_i hx
   simp only[Option.some.injEq]at h;subst h;exact XZ hm hs g6 (b:=false) λ v hv=>by rw[hx]at hv;exact Wr hv
  ·cases h
 | bad =>
  have h:(none:Option B9)=some E:=h;cases h
 | mn x =>
  simp only[c8]at h;split at h
  ·rename_i hx
   simp only[Option.some.injEq]at h;subst h;exact Yu hm hs g6 hx
  ·cases h
 | eg x =>
  simp only[c8]at h;split at h
  ·rename_i hx
   simp only[Option.some.injEq]at h;subst h;exact Uq hm hs g6 hx
  ·cases h
 | x7 s f xs =>
  simp only[c8,Option.map_eq_some_iff]at h;obtain ⟨p,hp,rfl⟩:=h;exact bV hC hm hs (Ae1 g6) (XF.1 hp m.own rfl)
 | oa s a6 bytes x y =>
  simp only[c8]at h;split at h
  ·rename_i k n hx hy
   split at h
   ·rename_i hn
    simp only[Option.some.injEq]at h;subst h;exact Vp hm hs g6 hx hy hn.1 hn.2.1 hn.2.2
   ·cases h
  ·cases h
 | gf tb x =>
  simp only[c8]at h;split at h
  ·rename_i k n hx
   split at h
   ·rename_i h0
    split at h
    ·rename_i v hv
     simp only[Option.some.injEq]at h;subst h;exact Yv hm hs g6 hx h0 hv
    ·cases h
   ·cases h
  ·cases h
 | pz p f xs =>
  simp only[c8,Option.map_eq_some_iff]at h;obtain ⟨cs,gj,rfl⟩:=h;rw[hC.num];exact Yq hm hs g6 gj
 | j5 f xs =>
  simp only[c8]at h;split at h
  ·rename_i hq
   split at h
   ·rename_i r hr
    split at h
    ·rename_i jy
     simp only[Option.some.injEq]at h;subst h;exact Un hC hm hs g6 hq hr jy
    ·cases h
   ·cases h
  ·cases h
 | s8 s f xs =>
  simp only[c8]at h;split at h
  ·rename_i vs gm
   simp only[Option.map_eq_some_iff]at h;obtain ⟨⟨z,es⟩,hr,rfl⟩:=h;exact Uo hC hm hs g6 (Afx gm) hr
  ·cases h
 | mq s n x v =>
  simp only[c8]at h;split at h
  ·rename_i s' t i j vs hx gm
   split at h
   ·rename_i hn
    obtain ⟨rfl,hn⟩:=hn;simp only[Option.map_eq_some_iff]at h;obtain ⟨k6,ho,rfl⟩:=h;have:=mL hm hs (Aff g6) hx gm hn ho
    intro K Q hK;refine this K Q λ u m' h1 h2 h3 h4=>hK u m' ?_ h2 h3 h4
    rw[h1];exact (Ahn ho).symm
   ·cases h
  ·cases h
 | m4 x xs =>
  simp only[c8]at h;split at h
  ·rename_i p f g cs hx
   split at h
   ·rename_i hg
    rw[hC.num]at hg;subst hg;split at h
    ·split at h
     ·rename_i vs gm
      simp only[Option.map_eq_some_iff]at h;obtain ⟨r,hr,rfl⟩:=h;exact Um hC hm hs g6 hx gm hr
     ·cases h
    ·simp only[Option.map_eq_some_iff]at h
     obtain ⟨r,hr,rfl⟩:=h;exact Up hC hm hs g6 hx hr
    ·split at h
     ·rename_i vs gm
      simp only[Option.map_eq_some_iff]at h;obtain ⟨r,hr,rfl⟩:=h;exact Ul hC hm hs g6 hx gm hr
     ·cases h
   ·cases h
  ·cases h
end
end Go.b8

namespace Go.b8
open Go.RowKit
def EF (T:Nat->AV):AP->AV
 | .t n=>T n
 | .c v=>v
def IO (T:Nat->AV) (d:Option Nat) (v:AV):Nat->AV:=λ j=>if d=some j then v else T j
def KT (T:Nat->AV):Option (Nat × Bool)->Option Bool
 | none=>some true
 | some (g,want)=>match T g with
  | .bool b=>some (b == want)
  | .e6 []=>some false
  | _=>none
theorem nU (st:St):st.ev=EF (e5 st.tm):=by funext x;cases x<;>rfl
theorem Aej (st:St) (g:Option (Nat × Bool)):EW st g=KT (e5 st.tm) g:=rfl
theorem mT (st:St) (d:Option Nat) (v:AV):e5 (st.dst d v).tm=IO (e5 st.tm) d v:=by
 cases d with
 | none=>funext j;simp [St.dst,IO]
 | some d =>
  funext j
  simp only[St.dst,IO,WA];by_cases h:j=d
  ·simp [h]
  ·simp [h,Ne.symm h]
theorem Sy (st:St) (d:Option Nat) (E:B9):e5 (st.app d E).tm=IO (e5 st.tm) d (E.valOf st.own):=by
 cases E<;>simp only[St.app,B9.valOf]<;>exact mT st d _
theorem mU (st:St) (d:Option Nat) (v:AV):(st.dst d v).own=st.own:=by cases d<;>rfl
theorem Sx (st:St) (d:Option Nat) (E:B9):(st.app d E).own=E.u5 st.own:=by
 cases E with
 | val v=>simp only[St.app,B9.u5];exact mU st d v
 | _=>rfl
section
variable {B:Nat} {S:Nat->Prop} {w0:World} {m0:M} {N:Nat}
variable {P:Program} {num:Nat->Nat} {C:Cl} {Q:Exit->Act->World->Prop}
structure FD (B:Nat) (S:Nat->Prop) (w0:World) (m0:M) (N:Nat) (T:Nat->AV) (m:M) (a:Act):Prop where
 mem:BP B S w0 m
 ext:DG B S m0 m
 tm : ∀ i,CV B S m (T i) (a.tmps.getD i undef)
 size:a.tmps.size=N
 defers:a.defers=[]
theorem FD.put {T:Nat->AV} {m m':M} {a:Act} (h:FD B S w0 m0 N T m a) (d:Option Nat) (hd : ∀ k,d=some k->k<N) {v:AV} {u:Value} (hm:BP B S w0 m') (he:DG B S m m') (hc:CV B S m' v u):FD B S w0 m0 N (IO T d v) m' (a.put d u):=by
 refine ⟨hm,h.ext.trans he,λ i => ?_,?_,?_⟩
 ·cases d with
  | none=>simpa [IO,Act.put] using he.cv (h.tm i)
  | some k =>
   have hk:k<a.tmps.size:=by rw[h.size];exact hd k rfl
   by_cases ka:i=k
   ·subst ka
    simp only[IO,if_true,Act.put];simpa [Array.getD,hk] using hc
   ·have k8 : ¬ (some k=some i):=λ e=>ka (by simpa using e.symm)
    simp only[IO,if_neg k8,Act.put];have:(a.tmps.setIfInBounds k u).getD i undef=a.tmps.getD i undef:=by
     simp [Array.getElem?_setIfInBounds_ne (Ne.symm ka)]
    rw[this];exact he.cv (h.tm i)
 ·cases d<;>simp [Act.put,h.size]
 ·cases d<;>simpa [Act.put] using h.defers
theorem FD.says {T:Nat->AV} {m:M} {a:Act} (h:FD B S w0 m0 N T m a):CM B S m (EF T) a.eval:=AgQ (λ_=>rfl) (λ_=>rfl) h.tm
theorem AhG {T:Nat->AV} {m:M} {a:Act} (h:FD B S w0 m0 N T m a) {ops:Array Oper} {o:Oper} {g':Option (Nat × Bool)} (hg:VG ops o.guard g'=true) {g:Bool} (rn:KT T g'=some g):Region.wanted o (yielded ops a.tmps)=g:=by
 unfold Region.wanted;cases Lo:o.guard with
 | none =>
  cases g' with
  | none=>simp [KT]at rn;simp [rn]
  | some _=>simp [VG,Lo]at hg
 | some jw =>
  obtain ⟨j,want⟩:=jw;cases g' with
  | none=>simp [VG,Lo]at hg
  | some tw =>
   obtain ⟨t,Rr⟩:=tw;simp only[VG,Lo,Bool.and_eq_true,beq_iff_eq]at hg;obtain ⟨rfl,hg⟩:=hg;split at hg
   ·rename_i oj Ih
    have Kw:oj.dst=some t:=by simpa using hg
    have s9:=h.tm t;simp only[KT]at rn;unfold yielded;simp only[Ih,Option.bind_some,Kw];split at rn
    ·rename_i b hb
     rw[hb]at s9;have hv:=QZ s9;have l9:a.tmps[t]? = some (.bool b):=by
      cases ht:a.tmps[t]? with
      | none=>simp [ht,undef]at hv
      | some x=>simp [ht]at hv;rw[hv]
     simp only[l9];simp at rn;rw[<-rn];cases b<;>cases want<;>rfl
    ·rename_i hb
     rw[hb]at s9;obtain ⟨vs,hv,hl,_⟩:=bH s9;have:vs=[]:=List.eq_nil_of_length_eq_zero (by simpa using hl.symm)
     subst this;simp at rn;subst rn;cases ht:a.tmps[t]? with
     | none=>rfl
     | some x =>
      simp [ht]at hv;subst hv;rfl
    ·cases rn
   ·cases hg
theorem xF (hC:GM P num C) {ops:Array Oper} {i:Nat} {o:Oper} {ai:AI} (hi:ops[i]? = some o) (g6:Y2 P num N ops o ai=true) {T:Nat->AV} {m:M} {a:Act} (hf:FD B S w0 m0 N T m a) {g:Bool} (hg:KT T ai.guard=some g) {E:B9}
  (hE:g=true->c8 C ai.a8 (EF T) m.own ai.op=some E) {K:Act->World->Prop} (hK : ∀ m' a',m'.own=(if g then E.u5 m.own else m.own)->FD B S w0 m0 N (IO T ai.dst (if g then E.valOf m.own else .e6 [])) m' a'->K a' m'.w):wpOp P ops Q i K a m.w:=by
 simp only[Y2,Bool.and_eq_true,beq_iff_eq]at g6;obtain ⟨⟨⟨h1,h2⟩,h3⟩,h4⟩:=g6;have hd : ∀ k,o.dst=some k->k<N:=λ k hk=>by
  rw[h1]at hk;rw[hk]at h2;simpa using h2
 unfold wpOp;simp only[hi,AhG hf h3 hg];cases g with
 | true =>
  simp only[if_true];refine .inl (Xv hC hf.mem hf.says h4 (hE rfl) K Q λ u m' j6 mc fq s9 => ?_);refine hK m' _ (by simpa using j6) ?_;rw[<-h1];exact hf.put o.dst hd mc fq s9
 | false =>
  simp only[Bool.false_eq_true,if_false];refine hK m _ (by simp) ?_;rw[<-h1];exact hf.put o.dst hd hf.mem (DG.refl m) rP
theorem vQ {o:AI} {st j4:St} (h:CO C o st=some j4) : ∃ g E,KT (e5 st.tm) o.guard=some g/\(g=true->c8 C o.a8 (EF (e5 st.tm)) st.own o.op=some E)/\e5 j4.tm=IO (e5 st.tm) o.dst (if g then E.valOf st.own else .e6 [])/\j4.own=(if g then E.u5 st.own else st.own):=by
 unfold CO at h;rw[Aej]at h;cases hg:KT (e5 st.tm) o.guard with
 | none=>simp [hg]at h
 | some g =>
  cases g with
  | true =>
   simp only[hg,Option.map_eq_some_iff]at h;obtain ⟨E,hE,rfl⟩:=h;rw[nU]at hE;exact ⟨true,E,rfl,λ_=>hE,Sy st o.dst E,Sx st o.dst E⟩
  | false =>
   simp only[hg,Option.some.injEq]at h;subst h;exact ⟨false,.val .any,rfl,λ h=>(by cases h),mT st o.dst _,mU st o.dst _⟩
theorem VH {ops:Array Oper} : ∀ {os:List Oper} {l:List AI},O9 P num N ops os l=true->os.length=l.length /\ ∀ (i:Nat) (o:Oper) (x:AI),os[i]? = some o->l[i]? = some x->Y2 P num N ops o x=true
 | [],[],_=>⟨rfl,λ i o x h=>by simp at h⟩
 | o::r,x::l,h=>by
  simp only[O9,Bool.and_eq_true]at h;obtain ⟨h1,h2⟩:=VH h.2;refine ⟨by simp [h1],λ i o' x' ho hx => ?_⟩;cases i with
  | zero=>simp at ho hx;subst ho hx;exact h.1
  | succ i=>exact h2 i o' x' (by simpa using ho) (by simpa using hx)
 | [],_::_,h=>by simp [O9]at h
 | _::_,[],h=>by simp [O9]at h
theorem xG (hC:GM P num C) {ops:Array Oper} {l:List AI} (g6:O9 P num N ops ops.toList l=true) : ∀ (n k:Nat) (st j4:St) (m:M) (a:Act),n+k=ops.size->CZ C (l.drop k) st=some j4->m.own=st.own->FD B S w0 m0 N (e5 st.tm) m a ->
  (∀ m' a',m'.own=j4.own->FD B S w0 m0 N (e5 j4.tm) m' a'->Q .normal a' m'.w)->wpOps P ops Q (List.range' k n) a m.w
 | 0,k,st,j4,m,a,hk,hs,j6,hf,hQ=>by
  have hl:=(VH g6).1;simp at hl;rw[List.drop_eq_nil_of_le (by omega)]at hs;simp only[CZ,Option.some.injEq]at hs;subst hs;simpa [wpOps] using hQ m a j6 hf
 | n+1,k,st,j4,m,a,hk,hs,j6,hf,hQ=>by
  obtain ⟨hl,hg⟩:=VH g6;simp at hl;have od:k<l.length:=by omega
  have Pv:k<ops.size:=by omega
  rw[List.drop_eq_getElem_cons od]at hs;simp only[CZ]at hs;cases g8:CO C l[k] st with
  | none=>simp [g8]at hs
  | some A7 =>
   simp only[g8]at hs;obtain ⟨g,E,h1,h2,h3,h4⟩:=vQ g8;rw[List.range'_succ,wpOps_cons];have hoi:ops[k]? = some ops[k]:=Array.getElem?_eq_getElem Pv;refine xF hC hoi (hg k ops[k] l[k] (by simp [Pv]) (zE od)) hf h1 (λ du=>by rw[j6];exact h2 du) λ m' a' ke ni => ?_
   refine xG hC g6 n (k+1) A7 j4 m' a' (by omega) hs ?_ ?_ hQ
   ·rw[ke,j6,h4]
   ·rw[j6]at ni
    rw[h3];exact ni
end
end Go.b8

namespace Go.b8
open Go.RowKit
section
variable {T T':Nat->AV} {C:Cl} {a8:List Nat} {own:AH}
theorem DH {x:AP} (h : ∀ t∈CU x,T t=T' t):EF T x=EF T' x:=by
 cases x with
 | t n=>exact h n (by simp [CU])
 | c v=>rfl
theorem RL {xs:List AP} (h : ∀ t∈xs.flatMap CU,T t=T' t):xs.map (EF T)=xs.map (EF T') :=
 List.map_congr_left λ x hx=>DH λ t ht=>h t (List.mem_flatMap.2 ⟨x,hx,ht⟩)
theorem tB {x:Option AP} (h : ∀ t∈fR x,T t=T' t) {y:AP} (hy:x=some y):EF T y=EF T' y:=by
 subst hy;exact DH h
theorem Xp {op:DT} (h : ∀ t∈HB op,T t=T' t):c8 C a8 (EF T) own op=c8 C a8 (EF T') own op:=by
 cases op with
 | build z ps =>
  simp only[c8];congr 2;refine List.map_congr_left λ p hp => ?_
  rw[DH (x:=p.2.2) λ t ht=>h t (by simp only[HB];exact List.mem_flatMap.2 ⟨p,hp,ht⟩)]
 | b9 s a6 ps =>
  have hm:ps.mapM (λ x=>cellsOf (EF T x))=ps.mapM (λ x=>cellsOf (EF T' x)):=by
   have e : ∀ l:List AP,(∀ x∈l,EF T x=EF T' x)->l.mapM (λ x=>cellsOf (EF T x))=l.mapM (λ x=>cellsOf (EF T' x)):=by
    intro l;induction l with
    | nil=>intro _;rfl
    | cons x r ih=>intro hl;simp only[List.mapM_cons];rw[hl x (by simp),ih λ y hy=>hl y (by simp [hy])]
   exact e ps λ x hx=>DH λ t ht=>h t (by simp only[HB];exact List.mem_flatMap.2 ⟨x,hx,ht⟩)
  simp only[c8,hm]
 | mm mx xs=>simp only[c8];rw[RL (xs:=xs) h]
 | call f xs=>simp only[c8];rw[RL (xs:=xs) h]
 | c9 f xs=>simp only[c8];rw[RL (xs:=xs) h]
 | ta ne x=>simp only[c8];rw[DH (x:=x) h]
 | bad=>rfl
 | mn x=>simp only[c8];rw[DH (x:=x) h]
 | eg x=>simp only[c8];rw[DH (x:=x) h]
 | oa s a6 bytes x y =>
  simp only[HB,List.mem_append]at h;simp only[c8];rw[DH (x:=x) λ t ht=>h t (.inl ht),DH (x:=y) λ t ht=>h t (.inr ht)]
 | gf tb x=>simp only[c8];rw[DH (x:=x) h]
 | pz p f xs =>
  have e : ∀ l:List AP,(∀ x∈l,EF T x=EF T' x)->l.mapM (λ x=>GH (EF T x))=l.mapM (λ x=>GH (EF T' x)):=by
   intro l;induction l with
   | nil=>intro _;rfl
   | cons x r ih=>intro hl;simp only[List.mapM_cons];rw[hl x (by simp),ih λ y hy=>hl y (by simp [hy])]
  simp only[c8];rw[e xs λ x hx=>DH λ t ht=>h t (by simp only[HB];exact List.mem_flatMap.2 ⟨x,hx,ht⟩)]
 | j5 f xs=>simp only[c8];rw[RL (xs:=xs) h]
 | s8 s f xs=>simp only[c8];rw[RL (xs:=xs) h]
 | x7 s f xs=>simp only[c8];rw[RL (xs:=xs) h]
 | mq s n x v =>
  simp only[HB,List.mem_append]at h;simp only[c8];rw[DH (x:=x) λ t ht=>h t (.inl ht),DH (x:=v) λ t ht=>h t (.inr ht)]
 | m4 x xs =>
  simp only[HB,List.mem_append]at h;simp only[c8];rw[DH (x:=x) λ t ht=>h t (.inl ht),RL (xs:=xs) λ t ht=>h t (.inr ht)]
 | fk a6 x lo hi =>
  simp only[HB,List.mem_append]at h;have hx:EF T x=EF T' x:=DH λ t ht=>h t (.inl (.inl ht))
  have og : ∀ y,lo=some y->EF T y=EF T' y:=λ y hy=>tB (λ t ht=>h t (.inl (.inr ht))) hy
  have Hz : ∀ y,hi=some y->EF T y=EF T' y:=λ y hy=>tB (λ t ht=>h t (.inr ht)) hy
  simp only[c8,hx];cases lo with
  | none=>cases hi with
   | none=>rfl
   | some y=>simp only[Hz y rfl]
  | some z=>cases hi with
   | none=>simp only[og z rfl]
   | some y=>simp only[og z rfl,Hz y rfl]
 | v9=>rfl
 | alloc=>rfl
 | n0 x=>simp only[c8];rw[DH (x:=x) h]
 | un f x=>simp only[c8];rw[DH (x:=x) h]
 | conv k x=>simp only[c8];rw[DH (x:=x) h]
 | box s x=>simp only[c8];rw[DH (x:=x) h]
 | u6 x off=>simp only[c8];rw[DH (x:=x) h]
 | oz x off n agg=>simp only[c8];rw[DH (x:=x) h]
 | ld agg n x=>simp only[c8];rw[DH (x:=x) h]
 | ext x i=>simp only[c8];rw[DH (x:=x) h]
 | len x=>simp only[c8];rw[DH (x:=x) h]
 | pick c x y =>
  simp only[HB,List.mem_append]at h;simp only[c8];rw[DH (x:=c) λ t ht=>h t (.inl (.inl ht)),DH (x:=x) λ t ht=>h t (.inl (.inr ht)),DH (x:=y) λ t ht=>h t (.inr ht)]
 | bin f x y =>
  simp only[HB,List.mem_append]at h;simp only[c8];rw[DH (x:=x) λ t ht=>h t (.inl ht),DH (x:=y) λ t ht=>h t (.inr ht)]
 | beq ne x y =>
  simp only[HB,List.mem_append]at h;simp only[c8];rw[DH (x:=x) λ t ht=>h t (.inl ht),DH (x:=y) λ t ht=>h t (.inr ht)]
 | q7 arr a6 x i =>
  simp only[HB,List.mem_append]at h;simp only[c8];rw[DH (x:=x) λ t ht=>h t (.inl ht),DH (x:=i) λ t ht=>h t (.inr ht)]
 | st n x v =>
  simp only[HB,List.mem_append]at h;simp only[c8];rw[DH (x:=x) λ t ht=>h t (.inl ht),DH (x:=v) λ t ht=>h t (.inr ht)]
 | mk s a6 bytes z l c =>
  simp only[HB,List.mem_append]at h;simp only[c8];rw[DH (x:=l) λ t ht=>h t (.inl ht),DH (x:=c) λ t ht=>h t (.inr ht)]
 | app s a6 bytes x y =>
  simp only[HB,List.mem_append]at h;simp only[c8];rw[DH (x:=x) λ t ht=>h t (.inl ht),DH (x:=y) λ t ht=>h t (.inr ht)]
theorem qB (o:AH) (l:List Nat) (s:Nat):o.l6 l s=if s∈l then ⟨0,λ_=>none⟩ else o s:=by
 induction l with
 | nil=>simp [AH.l6]
 | cons x r ih =>
  simp only[AH.l6,List.mem_cons];by_cases h:s=x
  ·simp [h]
  ·rw[if_neg h,ih]
   simp [h]
theorem AeM {o o':AH} {l:List Nat} (h : ∀ s,s ∉ l->o s=o' s):o.l6 l=o'.l6 l:=by
 funext s
 rw[qB,qB];split
 ·rfl
 ·rename_i hs;exact h s hs
end
section
variable {ops:Array Oper}
def inner (acc:Array Nat) (o:Oper):Nat:=o.after.foldl (λ s e=>if Region.binds .any e then s ||| 2^e.on ||| acc.getD e.on 0 else s) 0
theorem AeP (acc:Array Nat) (o:Oper) (j:Nat) (h:(inner acc o).testBit j=true) : ∃ e∈o.after,Region.binds .any e=true/\(e.on=j\/(acc.getD e.on 0).testBit j=true):=by
 unfold inner at h;rw[<-Array.foldl_toList]at h;have key : ∀ (l:List Edge) (s:Nat),(l.foldl (λ s e=>if Region.binds .any e then s ||| 2^e.on ||| acc.getD e.on 0 else s) s).testBit j=true->s.testBit j=true \/ ∃ e∈l,Region.binds .any e=true/\(e.on=j\/(acc.getD e.on 0).testBit j=true):=by
  intro l;induction l with
  | nil=>intro s hs;exact .inl hs
  | cons e r ih =>
   intro s hs;simp only[List.foldl_cons]at hs;rcases ih _ hs with h1|⟨e',iv,h2⟩
   ·by_cases hb:Region.binds .any e=true
    ·simp only[hb,if_true,Nat.testBit_or,Bool.or_eq_true,Nat.testBit_two_pow,decide_eq_true_eq]at h1
     rcases h1 with (h1|h1)|h1
     ·exact .inl h1
     ·exact .inr ⟨e,by simp,hb,.inl h1⟩
     ·exact .inr ⟨e,by simp,hb,.inr h1⟩
    ·simp only[hb,Bool.false_eq_true,if_false]at h1
     exact .inl h1
   ·exact .inr ⟨e',by simp [iv],h2⟩
 rcases key _ _ h with h|⟨e,he,h⟩
 ·simp at h
 ·exact ⟨e,by simpa using he,h⟩
theorem Tc (i j:Nat) (h:((Region.before ops).getD i 0).testBit j=true) : ∃ o,ops[i]? = some o /\ ∃ e∈o.after,Region.binds .any e=true/\(e.on=j\/(e.on<i/\((Region.before ops).getD e.on 0).testBit j=true)):=by
 have key : ∀ (rest:List Oper) (done:List Oper) (acc:Array Nat),acc.size=done.length ->
   (∀ i j,(acc.getD i 0).testBit j=true -> ∃ o,done[i]? = some o /\ ∃ e∈o.after,Region.binds .any e=true/\(e.on=j\/(e.on<i/\(acc.getD e.on 0).testBit j=true))) ->
   ∀ i j,((rest.foldl (λ acc o=>acc.push (inner acc o)) acc).getD i 0).testBit j=true -> ∃ o,(done++rest)[i]? = some o /\ ∃ e∈o.after,Region.binds .any e=true/\(e.on=j\/(e.on<i/\((rest.foldl (λ acc o=>acc.push (inner acc o)) acc).getD e.on 0).testBit j=true)):=by
  intro rest;induction rest with
  | nil=>intro done acc hs hinv i j hj;simpa using hinv i j hj
  | cons o r ih =>
   intro done acc hs hinv i j hj;simp only[List.foldl_cons]at hj ⊢;have:=ih (done++[o]) (acc.push (inner acc o)) (by simp [hs]) (λ i j qt => ?_) i j hj
   ·simpa using this
   ·have l9 : ∀ k,k<acc.size->(acc.push (inner acc o)).getD k 0=acc.getD k 0:=λ k hk=>by
     simp [Array.getD,hk,Nat.lt_succ_of_lt hk,Array.getElem_push_lt hk]
    by_cases hi:i<acc.size
    ·rw[l9 i hi]at qt
     obtain ⟨o',xu,e,he,hb,bn⟩:=hinv i j qt;refine ⟨o',by rw[List.getElem?_append_left (by omega)];exact xu,e,he,hb,bn.imp id λ⟨h1,h2⟩=>⟨h1,by rw[l9 e.on (by omega)];exact h2⟩⟩
    ·have Lg:i=acc.size:=by
      rcases Nat.lt_or_ge i (acc.push (inner acc o)).size with h1|h1
      ·simp at h1;omega
      ·have:(acc.push (inner acc o)).getD i 0=0:=by simp [Array.getD];intro h2;simp at h1;omega
       rw[this]at qt;simp at qt
     subst Lg;have fu:(acc.push (inner acc o)).getD acc.size 0=inner acc o:=by simp [Array.getD]
     rw[fu]at qt;obtain ⟨e,he,hb,bn⟩:=AeP acc o j qt;refine ⟨o,by rw[hs];simp,e,he,hb,bn.imp id λ h2 => ?_⟩;have g9:e.on<acc.size:=by
      rcases Nat.lt_or_ge e.on acc.size with h3|h3
      ·exact h3
      ·have:acc.getD e.on 0=0:=by simp [Array.getD];omega
       rw[this]at h2;simp at h2
     exact ⟨g9,by rw[l9 e.on g9];exact h2⟩
 have hb:Region.before ops=ops.toList.foldl (λ acc o=>acc.push (inner acc o)) #[]:=by
  unfold Region.before;rw[<-Array.foldl_toList];rfl
 rw[hb]at h ⊢;have:=key ops.toList [] #[] rfl (λ i j qt=>by simp at qt) i j h
 simpa using this
def SC (ops:Array Oper) (X:Nat->Bool):Prop := ∀ j o,X j=true->ops[j]? = some o -> ∀ e∈o.after,Region.binds .any e=true->X e.on=true
theorem Nu {X:Nat->Bool} (hX:SC ops X) : ∀ (i:Nat),(∀ o,ops[i]? = some o -> ∀ e∈o.after,Region.binds .any e=true->X e.on=true) -> ∀ j,((Region.before ops).getD i 0).testBit j=true->X j=true:=by
 intro i;induction i using Nat.strongRecOn with
 | ind i ih =>
  intro hi j hj;obtain ⟨o,ho,e,he,hb,bn⟩:=Tc i j hj;have hx:=hi o ho e he hb;rcases bn with h|⟨g9,h⟩
  ·rw[<-h];exact hx
  ·exact ih e.on g9 (λ o' xu e' iv j7=>hX e.on o' hx xu e' iv j7) j h
theorem Af1 {X:Nat->Bool} (hX:SC ops X) {i j:Nat} (hi : ∀ o,ops[i]? = some o -> ∀ e∈o.after,Region.binds .any e=true->X e.on=true) (g9:j<i) (h:HX (Region.before ops) i j=true):X j=true:=by
 unfold HX at h;rw[Nat.max_eq_left (by omega),Nat.min_eq_right (by omega)]at h;exact Nu hX i hi j h
theorem tD {X:Nat->Bool} (hX:SC ops X) {i j:Nat} (hj:X j=true) (g9:i<j) (h:HX (Region.before ops) i j=true):X i=true:=by
 unfold HX at h;rw[Nat.max_eq_right (by omega),Nat.min_eq_left (by omega)]at h;exact Nu hX j (λ o ho e he hb=>hX j o hj ho e he hb) i h
end
section
variable {C:Cl}
abbrev D:=(Nat->AV) × AH
structure DI where
 d:Option Nat
 g:Bool
 E:B9
 v:AV
def DI.own (r:DI) (o:AH):AH:=if r.g then r.E.u5 o else o
def DI.act (r:DI) (x:D):D:=(IO x.1 r.d r.v,r.own x.2)
structure OL (C:Cl) (x:AI) (r:DI) (s s':St):Prop where
 d:r.d=x.dst
 g:KT (e5 s.tm) x.guard=some r.g
 E:r.g=true->c8 C x.a8 (EF (e5 s.tm)) s.own x.op=some r.E
 v:r.v=(if r.g then r.E.valOf s.own else .e6 [])
 act:(e5 s'.tm,s'.own)=r.act (e5 s.tm,s.own)
theorem trace : ∀ {l:List AI} {st j4:St},CZ C l st=some j4 -> ∃ (σ:Nat->St) (rs:List DI),σ 0=st/\σ l.length=j4/\rs.length=l.length /\ ∀ (k:Nat) (x:AI) (r:DI),l[k]? = some x->rs[k]? = some r->OL C x r (σ k) (σ (k+1))
 | [],st,j4,h=>by
  simp only[CZ,Option.some.injEq]at h;subst h;exact ⟨λ_=>st,[],rfl,rfl,rfl,λ k x r hx=>by simp at hx⟩
 | o::q,st,j4,h=>by
  simp only[CZ]at h;cases hs:CO C o st with
  | none=>simp [hs]at h
  | some A7 =>
   simp only[hs]at h;obtain ⟨σ,rs,h0,h1,hl,h2⟩:=trace h;obtain ⟨g,E,e1,e2,e3,e4⟩:=vQ hs;refine ⟨λ k=>match k with|0=>st|k+1=>σ k,⟨o.dst,g,E,if g then E.valOf st.own else .e6 []⟩::rs,rfl,h1,by simp [hl],λ k x r hx hr => ?_⟩;cases k with
   | zero =>
    simp at hx hr;subst hx hr;refine ⟨rfl,e1,e2,rfl,?_⟩;show (e5 (σ 0).tm,(σ 0).own)=_;rw[h0,e3,e4];rfl
   | succ k=>exact h2 k x r (by simpa using hx) (by simpa using hr)
def DN (X:Nat->Bool):List DI->Nat->D->D
 | [],_,x=>x
 | r::rs,k,x=>DN X rs (k+1) (if X k then r.act x else x)
theorem dD (X:Nat->Bool) : ∀ (l l':List DI) (k:Nat) (x:D),DN X (l++l') k x=DN X l' (k+l.length) (DN X l k x)
 | [],l',k,x=>by simp [DN]
 | r::rs,l',k,x=>by
  simp only[List.cons_append,DN,List.length_cons];rw[dD X rs l' (k+1)];congr 1;omega
theorem pL {X Y:Nat->Bool} {t:Nat} : ∀ (l:List DI) (k:Nat) (x y:D),x.1 t=y.1 t->(∀ i r,l[i]? = some r->r.d=some t->X (k+i)=Y (k+i))->(DN X l k x).1 t=(DN Y l k y).1 t
 | [],k,x,y,h,_=>h
 | r::rs,k,x,y,h,ud=>by
  simp only[DN];refine pL rs (k+1) _ _ ?_ λ i r' hr hd=>by
   have:=ud (i+1) r' (by simpa using hr) hd
   rw[show k+1+i=k+(i+1) by omega];exact this
  by_cases hd:r.d=some t
  ·have hx:X k=Y k:=by simpa using ud 0 r rfl hd
   rw[hx];cases Y k
   ·simpa using h
   ·simp [DI.act,IO,hd]
  ·have e1 : ∀ z:D,(r.act z).1 t=z.1 t:=λ z=>by simp [DI.act,IO,hd]
   cases X k<;>cases Y k<;>simp [e1,h]
theorem Af8 (E:B9) (s:Nat) (o o':AH) (h:o s=o' s):E.u5 o s=E.u5 o' s:=by
 cases E with
 | val v=>exact h
 | new s' b v =>
  simp only[B9.u5,AH.put];by_cases hs:s=s'
  ·subst hs;simp [h]
  ·simp [hs,h]
 | yn s' b v =>
  simp only[B9.u5,AH.put];by_cases hs:s=s'
  ·subst hs;simp [h]
  ·simp [hs,h]
 | ct v o2=>rfl
 | Al s' v o2 =>
  simp only[B9.u5,AH.put];by_cases hs:s=s'
  ·subst hs;simp [h]
  ·simp [hs]
 | wv s' x v =>
  simp only[B9.u5,AH.put];by_cases hs:s=s'
  ·simp [hs]
  ·simp [hs,h]
 | m7 s' x =>
  simp only[B9.u5,AH.put];by_cases hs:s=s'
  ·simp [hs]
  ·simp [hs,h]
theorem pK {X Y:Nat->Bool} {s:Nat} : ∀ (l:List DI) (k:Nat) (x y:D),x.2 s=y.2 s->(∀ i r,l[i]? = some r->X (k+i)=Y (k+i) \/ ∀ o,r.own o s=o s)->(DN X l k x).2 s=(DN Y l k y).2 s
 | [],k,x,y,h,_=>h
 | r::rs,k,x,y,h,ud=>by
  simp only[DN];refine pK rs (k+1) _ _ ?_ λ i r' hr=>by
   have:=ud (i+1) r' (by simpa using hr)
   rw[show k+1+i=k+(i+1) by omega];exact this
  rcases ud 0 r rfl with hx|hx
  ·simp only[Nat.add_zero]at hx
   rw[hx];cases Y k
   ·simpa using h
   ·simp only[if_true,DI.act,DI.own]
    cases r.g
    ·simpa using h
    ·simpa using Af8 r.E s _ _ h
  ·have e1 : ∀ z:D,(r.act z).2 s=z.2 s:=λ z=>hx z.2
   cases X k<;>cases Y k<;>simp [e1,h]
theorem dE {X:Nat->Bool} (q:DI) : ∀ (l:List DI) (k:Nat) (x:D),(∀ i r,l[i]? = some r->X (k+i)=true -> ∀ z,r.act (q.act z)=q.act (r.act z))->DN X l k (q.act x)=q.act (DN X l k x)
 | [],k,x,_=>rfl
 | r::rs,k,x,h=>by
  simp only[DN];have cr : ∀ i r',rs[i]? = some r'->X (k+1+i)=true -> ∀ z,r'.act (q.act z)=q.act (r'.act z):=λ i r' hr hX=>h (i+1) r' (by simpa using hr) (by rw[show k+(i+1)=k+1+i by omega];exact hX)
  cases hk:X k
  ·simp only[Bool.false_eq_true,if_false]
   exact dE q rs (k+1) x cr
  ·simp only[if_true]
   rw[h 0 r rfl (by simpa using hk)];exact dE q rs (k+1) _ cr
theorem YE {X Y:Nat->Bool} : ∀ (l:List DI) (k:Nat) (x:D),(∀ i,i<l.length->X (k+i)=Y (k+i))->DN X l k x=DN Y l k x
 | [],_,_,_=>rfl
 | r::rs,k,x,h=>by
  simp only[DN];rw[show X k=Y k by simpa using h 0 (by simp)];exact YE rs (k+1) _ λ i hi=>by
   have:=h (i+1) (by simpa using hi)
   rw[show k+1+i=k+(i+1) by omega];exact this
theorem pJ {X X':Nat->Bool} {l:List DI} {i:Nat} {q:DI} (hq:l[i]? = some q) (lk:X i=false) (wg : ∀ j,X' j=(decide (j=i)||X j)) (x:D) (Fj : ∀ j r,l[j]? = some r->i<j->X j=true -> ∀ z,r.act (q.act z)=q.act (r.act z)) :
  DN X' l 0 x=q.act (DN X l 0 x):=by
 have w5:i<l.length:=(zS hq).1;have hli:l=l.take i++(q::l.drop (i+1)):=by
  have:l.drop i=q::l.drop (i+1):=by
   rw[List.drop_eq_getElem_cons w5];congr 1;have:=(zS hq).2
   exact this
  rw[<-this,List.take_append_drop]
 have de:(l.take i).length=i:=by simp;omega
 rw[hli,dD,dD,de,Nat.zero_add];simp only[DN,lk,Bool.false_eq_true,if_false];rw[show X' i=true by rw[wg];simp];simp only[if_true];rw[YE (X:=X') (Y:=X) (l.take i) 0 x (λ j hj=>by rw[wg];simp;omega)];rw[YE (X:=X') (Y:=X) (l.drop (i+1)) (i+1) _ (λ j hj=>by rw[wg];simp;omega)];refine dE q _ _ _ λ j r hr Kh => ?_
 rw[List.getElem?_drop]at hr;exact Fj (i+1+j) r hr (by omega) Kh
end
end Go.b8

namespace Go.b8
open Go.RowKit
section
variable {C:Cl} {a8:List Nat} {ρ:AP->AV}
theorem Xt {op:DT} (o o':AH) (ht:F8 op=false) (hr:RP op=true->o.l6 a8=o'.l6 a8) (g8 : ∀ s,ED op=some s->o s=o' s):c8 C a8 ρ o op=c8 C a8 ρ o' op:=by
 cases op with
 | mq s n x v =>
  have h1:=g8 s rfl;have h2 : ∀ t i j vs,(o.ko s t i j vs).map (λ q=>B9.m7 s (q s))=(o'.ko s t i j vs).map (λ q=>B9.m7 s (q s)):=λ t i j vs=>by
   have hg:o.get s t=o'.get s t:=by unfold AH.get;rw[h1]
   unfold AH.ko;rw[hg];cases o'.get s t with
   | none=>rfl
   | some b =>
    simp only;cases b.es[i]? with
    | none=>rfl
    | some cs =>
     simp only;split
     ·simp only[Option.map_some,AH.g7,h1]
     ·rfl
  simp only[c8,h2]
 | ld agg n x=>have:=hr rfl;simp only[c8,this]
 | call f xs=>have:=hr rfl;simp only[c8,this]
 | s8 s f xs=>have:=hr rfl;simp only[c8,this]
 | x7 s f xs=>have h1:=g8 s rfl;simp only[c8,h1]
 | st=>simp [F8]at ht
 | app=>simp [F8]at ht
 | c9=>simp [F8]at ht
 | m4=>simp [F8]at ht
 | _=>rfl
theorem nB {op:DT} {o:AH} {E:B9} (h:c8 C a8 ρ o op=some E) {s:Nat} (hs:ED op=some s):(∃ b v,E = .new s b v\/E = .yn s b v) \/ ∃ x v,E = .m7 s x\/E = .wv s x v:=by
 cases op with
 | mq s' n x v =>
  simp only[ED,Option.some.injEq]at hs;subst hs;simp only[c8]at h;split at h
  ·split at h
   ·simp only[Option.map_eq_some_iff]at h
    obtain ⟨q,_,rfl⟩:=h;exact .inr ⟨_,.any,.inl rfl⟩
   ·cases h
  ·cases h
 | s8 s' f xs =>
  simp only[ED,Option.some.injEq]at hs;subst hs;simp only[c8]at h;split at h
  ·simp only[Option.map_eq_some_iff]at h
   obtain ⟨r,_,rfl⟩:=h;exact .inl ⟨_,_,.inl rfl⟩
  ·cases h
 | oa s' a6 bytes x y =>
  simp only[ED,Option.some.injEq]at hs;subst hs;simp only[c8]at h;split at h
  ·split at h
   ·simp only[Option.some.injEq]at h;exact .inl ⟨_,_,.inl h.symm⟩
   ·cases h
  ·cases h
 | x7 s' f xs =>
  simp only[ED,Option.some.injEq]at hs;subst hs;simp only[c8,Option.map_eq_some_iff]at h;obtain ⟨p,_,rfl⟩:=h;exact .inr ⟨_,_,.inr rfl⟩
 | v9 s' z =>
  simp only[ED,Option.some.injEq]at hs;subst hs;simp only[c8,Option.some.injEq]at h;exact .inl ⟨_,_,.inr h.symm⟩
 | box s' x =>
  simp only[ED,Option.some.injEq]at hs;subst hs;simp only[c8]at h;split at h
  ·simp only[Option.some.injEq]at h;exact .inl ⟨_,_,.inl h.symm⟩
  ·cases h
 | alloc s' z =>
  simp only[ED,Option.some.injEq]at hs;subst hs;simp only[c8,Option.some.injEq]at h;exact .inl ⟨_,_,.inl h.symm⟩
 | b9 s' a6 ps =>
  simp only[ED,Option.some.injEq]at hs;subst hs;simp only[c8]at h;split at h
  ·split at h
   ·simp only[Option.some.injEq]at h;exact .inl ⟨_,_,.inl h.symm⟩
   ·cases h
  ·cases h
 | mk s' a6 bytes z l c =>
  simp only[ED,Option.some.injEq]at hs;subst hs;simp only[c8]at h;split at h
  ·split at h
   ·simp only[Option.some.injEq]at h;exact .inl ⟨_,_,.inl h.symm⟩
   ·cases h
  ·cases h
 | _=>simp [ED]at hs
theorem eJ {α:Type} {x:Option α} {f:α->AV} {E:B9} (h:x.map (λ y=>B9.val (f y))=some E) : ∃ v,E = .val v:=by
 cases x with
 | none=>cases h
 | some y=>simp only[Option.map_some,Option.some.injEq]at h;exact ⟨_,h.symm⟩
theorem nC {op:DT} {o:AH} {E:B9} (h:c8 C a8 ρ o op=some E) (ht:F8 op=false) (hs:ED op=none) : ∃ v,E = .val v:=by
 cases op<;>first|(simp [F8]at ht;done)|(simp [ED]at hs;done)|skip
 all_goals simp only[c8]at h
 all_goals
  first
   | (simp only[Option.some.injEq]at h;exact ⟨_,h.symm⟩)
   | exact eJ (f:=id) h
   | skip
 all_goals (repeat' split at h)
 all_goals
  first
   | (cases h;done)
   | (simp only[Option.some.injEq]at h;exact ⟨_,h.symm⟩)
   | exact eJ (f:=id) h
   | exact eJ (f:=AV.agg) h
   | (simp only[Option.map_eq_some_iff]at h;obtain ⟨cs,_,rfl⟩:=h;exact ⟨_,rfl⟩)
theorem RO {x:AI} {r:DI} {s s':St} (h:OL C x r s s') (ht:F8 x.op=false) (hs:ED x.op=none) (o:AH):r.own o=o:=by
 unfold DI.own;cases hg:r.g with
 | false=>rfl
 | true =>
  obtain ⟨v,hv⟩:=nC (h.E hg) ht hs;simp [hv,B9.u5]
theorem ZF {x:AI} {r:DI} {s s':St} (h:OL C x r s s') {q:Nat} (hs:ED x.op=some q):(∀ o,r.own o=o) \/ ∃ F:CB->CB,∀ o:AH,r.own o=o.put q (F (o q)):=by
 unfold DI.own;cases hg:r.g with
 | false=>exact .inl λ_=>rfl
 | true =>
  rcases nB (h.E hg) hs with ⟨b,v,hv|hv⟩|⟨x,v,hv|hv⟩
  ·exact .inr ⟨λ q=>q.new b,λ o=>by simp [hv,B9.u5]⟩
  ·exact .inr ⟨λ q=>q.new b,λ o=>by simp [hv,B9.u5]⟩
  ·exact .inr ⟨λ_=>x,λ o=>by simp [hv,B9.u5]⟩
  ·exact .inr ⟨λ_=>x,λ o=>by simp [hv,B9.u5]⟩
theorem gB {x:AI} {r:DI} {s s':St} (h:OL C x r s s') {q:Nat} (hs:ED x.op=some q) {p:Nat} (hp:p≠q) (o:AH):r.own o p=o p:=by
 rcases ZF h hs with h1|⟨b,h1⟩
 ·rw[h1]
 ·rw[h1];simp [AH.put,hp]
theorem qN {x:AI} {s:Nat} (h:OB x=some s) : ∃ f xs,x.op = .c9 f xs/\x.a8=[s]:=by
 unfold OB at h;split at h
 ·rename_i f xs s' h1 h2
  obtain rfl:=Option.some.inj h;exact ⟨f,xs,h1,h2⟩
 ·cases h
theorem YJ {x y:AI} (h:S4 x y=true) : ∃ s,OB x=some s/\ED y.op=some s/\F8 y.op=false/\RP y.op=false:=by
 unfold S4 at h;split at h
 ·rename_i s hs
  simp only[Bool.and_eq_true,beq_iff_eq,Bool.not_eq_true']at h;exact ⟨s,hs,h.1,h.2.1,h.2.2⟩
 ·cases h
theorem Ry {f:Nat} {vs:List AV} {s:Nat} {o o':AH} (h : ∀ q,q≠s->o q=o' q):N3 C f vs s o=N3 C f vs s o':=by
 have e:(λ p:AV × AH => ∀ u:AH,(∀ q,q≠s->u q=o q)->C.df f vs u=some (p.1,p.2.put s (u s)))=λ p:AV × AH => ∀ u:AH,(∀ q,q≠s->u q=o' q)->C.df f vs u=some (p.1,p.2.put s (u s)):=by
  funext p
  refine propext ⟨λ g u hu=>g u λ q hq=>by rw[hu q hq,h q hq],λ g u hu=>g u λ q hq=>by rw[hu q hq,h q hq]⟩
 cases h1:N3 C f vs s o with
 | some p =>
  have h2:=XC h1;exact (XB h2.1 λ u hu=>h2.2 u λ q hq=>by rw[hu q hq,h q hq]).symm
 | none =>
  cases h3:N3 C f vs s o' with
  | none=>rfl
  | some p =>
   have h2:=XC h3;rw[XB h2.1 λ u hu=>h2.2 u λ q hq=>by rw[hu q hq,h q hq]]at h1;cases h1
theorem nA {x:AI} {s:Nat} (hk:OB x=some s) {o:AH} {E:B9} (h:c8 C x.a8 ρ o x.op=some E) : ∃ v o',E = .Al s v o':=by
 obtain ⟨f,xs,h1,h2⟩:=qN hk;rw[h1,h2]at h;simp only[c8,Option.map_eq_some_iff]at h;obtain ⟨p,_,rfl⟩:=h;exact ⟨_,_,rfl⟩
theorem tV {x:AI} {r:DI} {s s':St} (h:OL C x r s s') {q:Nat} (hk:OB x=some q):(∀ o,r.own o=o) \/ ∃ o':AH,∀ o:AH,r.own o=o'.put q (o q):=by
 unfold DI.own;cases hg:r.g with
 | false=>exact .inl λ_=>rfl
 | true =>
  obtain ⟨v,o',hv⟩:=nA hk (h.E hg);exact .inr ⟨o',λ o=>by simp [hv,B9.u5]⟩
theorem tC (b:Array Nat) (i j:Nat):HX b i j=HX b j i:=by unfold HX;rw[Nat.max_comm,Nat.min_comm]
theorem Q2 {ops:Array Oper} {l:List AI} (h:Q1 ops l=true) {i j:Nat} {x y:AI} (hx:l[i]? = some x) (hy:l[j]? = some y) (k8:i≠j) :
  (HX (Region.before ops) i j=true\/((∀ t,y.dst=some t->t ∉ S7 x)/\(F8 x.op=false\/J3 y.op=false\/S4 x y=true)/\(RP x.op=true -> ∀ s,ED y.op=some s->s∈x.a8))) /\
  (HX (Region.before ops) i j=true \/ ∀ s s',ED x.op=some s->ED y.op=some s'->s≠s'):=by
 simp only[Q1,Bool.and_eq_true]at h;have h1:=h.1.1;rw[List.all_eq_true]at h1;have hxm:(x,i)∈l.zipIdx:=List.mem_zipIdx_iff_getElem?.2 hx;have hym:(y,j)∈l.zipIdx:=List.mem_zipIdx_iff_getElem?.2 hy;have h2:=h1 (x,i) hxm;simp only at h2;rw[List.all_eq_true]at h2;have h3:=h2 (y,j) hym;simp only[Bool.and_eq_true,Bool.or_eq_true,beq_iff_eq,k8,false_or]at h3;obtain ⟨h4,h5⟩:=h3;refine ⟨?_,h5.imp id λ h5 s s' hs vd => ?_⟩
 ·unfold tL at h4
  simp only[Bool.or_eq_true,beq_iff_eq,k8,false_or]at h4;refine h4.imp id λ h6 => ?_
  simp only[Bool.and_eq_true,Bool.or_eq_true,Bool.not_eq_true']at h6;obtain ⟨⟨h7,h8⟩,h9⟩:=h6;refine ⟨λ t ht => ?_,or_assoc.1 h8,λ hr s hs => ?_⟩
  ·rw[ht]at h7
   simpa using h7
  ·rw[hr,hs]at h9
   simpa using h9
 ·rw[hs,vd]at h5
  simpa using h5
structure WN (C:Cl) (ops:Array Oper) (l:List AI) (σ:Nat->St) (rs:List DI):Prop where
 ok:Q1 ops l=true
 len:rs.length=l.length
 fits : ∀ (k:Nat) (x:AI) (r:DI),l[k]? = some x->rs[k]? = some r->OL C x r (σ k) (σ (k+1))
variable {ops:Array Oper} {l:List AI} {σ:Nat->St} {rs:List DI}
theorem dF {X:Nat->Bool} : ∀ (l:List DI) (k:Nat) (x:D),(∀ i,i<l.length->X (k+i)=false)->DN X l k x=x
 | [],_,_,_=>rfl
 | r::q,k,x,h=>by
  simp only[DN];rw[show X k=false by simpa using h 0 (by simp)];exact dF q (k+1) _ λ i hi=>by
   have:=h (i+1) (by simpa using hi)
   rw[show k+1+i=k+(i+1) by omega];exact this
def d0 (σ:Nat->St):D:=(e5 (σ 0).tm,(σ 0).own)
theorem bY (h:WN C ops l σ rs) : ∀ k,k<=l.length->DN (λ j=>decide (j<k)) rs 0 (d0 σ)=(e5 (σ k).tm,(σ k).own)
 | 0,_=>dF rs 0 _ λ i _=>by simp
 | k+1,hk=>by
  have od:k<l.length:=by omega
  have hkr:k<rs.length:=by rw[h.len];exact od
  have hr:rs[k]? = some rs[k]:=zE hkr;have hf:=h.fits k l[k] rs[k] (zE od) hr;rw[pJ (X:=λ j=>decide (j<k)) (X':=λ j=>decide (j<k+1)) hr (by simp) (λ j=>by
   by_cases h1:j=k
   ·simp [h1]
   ·simp [h1];omega) _ (λ j r' _ g9 hX=>by simp at hX;omega),bY h k (by omega)]
  exact hf.act.symm
section
variable {X:Nat->Bool} {i:Nat} {x:AI} {r:DI}
theorem tE (hX:SC ops X) (lk:X i=false) (dc : ∀ o,ops[i]? = some o -> ∀ e∈o.after,Region.binds .any e=true->X e.on=true) {j:Nat} (k8:i≠j) (ho:HX (Region.before ops) i j=true):X j=decide (j<i):=by
 rcases Nat.lt_or_gt_of_ne k8 with g9|rn
 ·have:X j=false:=by
   cases hj:X j with
   | false=>rfl
   | true=>have:=tD hX hj g9 ho;rw[lk]at this;cases this
  rw[this];simp;omega
 ·rw[Af1 hX dc rn ho];simp;omega
theorem Xj (h:WN C ops l σ rs) (hx:l[i]? = some x) (hr:rs[i]? = some r) (hX:SC ops X) (lk:X i=false) (dc : ∀ o,ops[i]? = some o -> ∀ e∈o.after,Region.binds .any e=true->X e.on=true) :
  KT (DN X rs 0 (d0 σ)).1 x.guard=some r.g/\(r.g=true->c8 C x.a8 (EF (DN X rs 0 (d0 σ)).1) (DN X rs 0 (d0 σ)).2 x.op=some r.E) /\
  (if r.g then r.E.valOf (DN X rs 0 (d0 σ)).2 else .e6 [])=r.v /\
  ∀ X':Nat->Bool,(∀ j,X' j=(decide (j=i)||X j))->DN X' rs 0 (d0 σ)=r.act (DN X rs 0 (d0 σ)):=by
 have w5:i<l.length:=(zS hx).1;have hf:=h.fits i x r hx hr;have Ab:=bY h i (by omega);generalize hT:DN X rs 0 (d0 σ)=TX;have x8 : ∀ (j:Nat) (r':DI),rs[j]? = some r' -> ∃ y,l[j]? = some y/\OL C y r' (σ j) (σ (j+1)):=λ j r' hj=>by
  have db:j<l.length:=by rw[<-h.len];exact (zS hj).1
  exact ⟨l[j],zE db,h.fits j _ _ (zE db) hj⟩
 have zy : ∀ t∈S7 x,TX.1 t=e5 (σ i).tm t:=λ t ht=>by
  have:=pL (X:=X) (Y:=λ j=>decide (j<i)) (t:=t) rs 0 (d0 σ) (d0 σ) rfl (λ j r' hj hd=>by
   simp only[Nat.zero_add];by_cases k8:i=j
   ·subst k8;simp [lk]
   ·obtain ⟨y,hy,dp⟩:=x8 j r' hj
    rcases (Q2 h.ok hx hy k8).1 with ho|⟨h1,_⟩
    ·exact tE hX lk dc k8 ho
    ·exact absurd ht (h1 t (by rw[<-dp.d];exact hd)))
  rw[hT,Ab]at this;exact this
 have Hc : ∀ t∈HB x.op,TX.1 t=e5 (σ i).tm t:=λ t ht=>zy t (by simp [S7,ht])
 have ff : ∀ s,(∀ (j:Nat) (y:AI) (r':DI),i≠j->l[j]? = some y->rs[j]? = some r'->HX (Region.before ops) i j=true \/ ∀ o,r'.own o s=o s)->TX.2 s=(σ i).own s:=λ s hs=>by
  have:=pK (X:=X) (Y:=λ j=>decide (j<i)) (s:=s) rs 0 (d0 σ) (d0 σ) rfl (λ j r' hj=>by
   simp only[Nat.zero_add];by_cases k8:i=j
   ·subst k8;left;simp [lk]
   ·obtain ⟨y,hy,dp⟩:=x8 j r' hj
    rcases hs j y r' k8 hy hj with ho|ho
    ·exact .inl (tE hX lk dc k8 ho)
    ·exact .inr ho)
  rw[hT,Ab]at this;exact this
 have nj : ∀ (j:Nat) (y:AI) (r':DI),l[j]? = some y->rs[j]? = some r'->J3 y.op=false -> ∀ o,r'.own o=o:=λ j y r' hy hj hm o=>by
  simp only[J3,Bool.or_eq_false_iff]at hm;exact RO (h.fits j y r' hy hj) hm.1.1 (by simpa using hm.2) o
 have Gr : ∀ (j:Nat) (y:AI),i≠j->l[j]? = some y->F8 y.op=true->J3 x.op=true->HX (Region.before ops) i j=true\/S4 y x=true:=λ j y k8 hy ht jk=>by
  rcases (Q2 h.ok hy hx (Ne.symm k8)).1 with ho|⟨_,h2,_⟩
  ·rw[tC];exact .inl ho
  ·rw[ht,jk]at h2
   simp only[Bool.true_eq_false,false_or]at h2;exact .inr h2
 have hg:KT TX.1 x.guard=some r.g:=by
  rw[<-hf.g];cases Dh:x.guard with
  | none=>rfl
  | some gw =>
   obtain ⟨g,w⟩:=gw;simp only[KT];rw[zy g (by simp [S7,Dh])]
 have Ac:F8 x.op=true -> ∀ s,OB x≠some s->TX.2 s=(σ i).own s:=λ ht s Bz=>by
  refine ff s λ j y r' k8 hy hj => ?_
  cases hm:J3 y.op with
  | false=>exact .inr λ o=>by rw[nj j y r' hy hj hm o]
  | true =>
   rcases (Q2 h.ok hx hy k8).1 with ho|⟨_,h2,_⟩
   ·exact .inl ho
   ·rw[ht,hm]at h2
    simp only[Bool.true_eq_false,false_or]at h2;obtain ⟨q,k1,k2,k3,_⟩:=YJ h2;exact .inr λ o=>gB (h.fits j y r' hy hj) k2 (p:=s) (λ e=>Bz (by rw[e];exact k1)) o
 have vk:F8 x.op=true->OB x=none->TX.2=(σ i).own:=λ ht hn=>by
  funext s
  exact Ac ht s (by rw[hn];simp)
 have Gp:RP x.op=true->TX.2.l6 x.a8=(σ i).own.l6 x.a8:=λ iy=>by
  refine AeM λ s hs=>ff s λ j y r' k8 hy hj => ?_
  have jk:J3 x.op=true:=by simp [J3,iy]
  cases ht:F8 y.op with
  | true =>
   refine .inl ((Gr j y k8 hy ht jk).resolve_right λ hk => ?_);obtain ⟨_,_,_,_,k4⟩:=YJ hk;rw[iy]at k4;cases k4
  | false =>
   cases ki:ED y.op with
   | none=>exact .inr λ o=>by rw[RO (h.fits j y r' hy hj) ht ki o]
   | some q =>
    rcases (Q2 h.ok hx hy k8).1 with ho|⟨_,_,h3⟩
    ·exact .inl ho
    ·exact .inr λ o=>gB (h.fits j y r' hy hj) ki (p:=s) (λ e=>hs (by rw[e];exact h3 iy q ki)) o
 have zw : ∀ s,ED x.op=some s->TX.2 s=(σ i).own s:=λ s tj=>by
  have jk:J3 x.op=true:=by simp [J3,tj]
  exact ff s λ j y r' k8 hy hj=>by
   cases ht:F8 y.op with
   | true =>
    rcases Gr j y k8 hy ht jk with ho|hk
    ·exact .inl ho
    ·obtain ⟨q,k1,k2,_,_⟩:=YJ hk
     obtain rfl:q=s:=Option.some.inj (k2.symm.trans tj);rcases tV (h.fits j y r' hy hj) k1 with g1|⟨o',g1⟩
     ·exact .inr λ o=>by rw[g1]
     ·exact .inr λ o=>by rw[g1];simp [AH.put]
   | false =>
    cases ki:ED y.op with
    | none=>exact .inr λ o=>by rw[RO (h.fits j y r' hy hj) ht ki o]
    | some q =>
     rcases (Q2 h.ok hx hy k8).2 with ho|ye
     ·exact .inl ho
     ·exact .inr λ o=>gB (h.fits j y r' hy hj) ki (ye s q tj ki) o
 have La:r.g=true->c8 C x.a8 (EF TX.1) TX.2 x.op=some r.E:=λ du=>by
  rw[Xp Hc,<-hf.E du];cases ht:F8 x.op with
  | true =>
   cases hk:OB x with
   | none=>rw[vk ht hk]
   | some s =>
    obtain ⟨f,xs,k1,k2⟩:=qN hk;rw[k1,k2];simp only[c8];rw[Ry (o':=(σ i).own) λ q hq=>Ac ht q (by rw[hk];exact λ e=>hq (Option.some.inj e).symm)]
  | false=>exact Xt _ _ ht Gp zw
 have hval:(if r.g then r.E.valOf TX.2 else .e6 [])=r.v:=by
  rw[hf.v];cases lz:r.g with
  | false=>rfl
  | true =>
   simp only[if_true];cases tj:ED x.op with
   | none =>
    cases ht:F8 x.op with
    | true =>
     cases hk:OB x with
     | none=>rw[vk ht hk]
     | some s =>
      obtain ⟨v,o',hv⟩:=nA hk (hf.E lz);rw[hv];rfl
    | false =>
     obtain ⟨v,hv⟩:=nC (hf.E lz) ht tj;rw[hv];rfl
   | some s =>
    have ye:=zw s tj;rcases nB (hf.E lz) tj with ⟨b,v,hv|hv⟩|⟨x,v,hv|hv⟩<;>rw[hv]<;>simp only[B9.valOf,AH.e8,ye]
 refine ⟨hg,La,hval,λ X' wg => ?_⟩;rw[<-hT];refine pJ hr lk wg _ λ j r' hj g9 Kh z => ?_
 obtain ⟨y,hy,dp⟩:=x8 j r' hj;have k8:i≠j:=by omega
 have Gf : ¬ HX (Region.before ops) i j=true:=λ ho=>by
  have:=tD hX Kh g9 ho
  rw[lk]at this;cases this
 obtain ⟨Lr,Dn⟩:=Q2 h.ok hx hy k8;obtain ⟨xx,wk⟩:=Q2 h.ok hy hx (Ne.symm k8);have hp:=Lr.resolve_left Gf;have hq:=xx.resolve_left (by rw[tC];exact Gf);unfold DI.act;refine Prod.ext ?_ ?_
 ·funext t
  simp only[IO];by_cases h1:r'.d=some t<;>by_cases h2:r.d=some t
  ·exact absurd (by rw[hf.d]at h2;simp [S7,h2]) (hp.1 t (by rw[<-dp.d];exact h1))
  ·simp [h1,h2]
  ·simp [h1,h2]
  ·simp [h1,h2]
 ·show r'.own (r.own z.2)=r.own (r'.own z.2)
  cases jk:J3 x.op with
  | false=>rw[nj i x r hx hr jk,nj i x r hx hr jk]
  | true =>
   cases xp:J3 y.op with
   | false=>rw[nj j y r' hy hj xp,nj j y r' hy hj xp]
   | true =>
    have Gb : ∀ {x y:AI} {r r':DI} {s1 s2 s3 s4:St},OL C x r s1 s2->OL C y r' s3 s4->S4 x y=true -> ∀ o,r'.own (r.own o)=r.own (r'.own o):=λ hf dp hk o=>by
     obtain ⟨q,k1,k2,_,_⟩:=YJ hk;rcases tV hf k1 with g1|⟨o',g1⟩
     ·rw[g1,g1]
     ·rcases ZF dp k2 with g2|⟨F,g2⟩
      ·rw[g2,g2]
      ·rw[g1,g2,g2,g1]
       funext p
       simp only[AH.put];split<;>rfl
    rcases hp.2.1 with Qi|h1|h1
    rotate_left
    ·rw[xp]at h1;cases h1
    ·exact Gb hf dp h1 _
    rcases hq.2.1 with Qj|h1|h1
    rotate_left
    ·rw[jk]at h1;cases h1
    ·exact (Gb dp hf h1 _).symm
    cases tj:ED x.op with
    | none=>rw[RO hf Qi tj,RO hf Qi tj]
    | some s =>
     cases ki:ED y.op with
     | none=>rw[RO dp Qj ki,RO dp Qj ki]
     | some s' =>
      have ye:=(Dn.resolve_left Gf) s s' tj ki;rcases ZF hf tj with h1|⟨b,h1⟩
      ·rw[h1,h1]
      ·rcases ZF dp ki with h2|⟨b',h2⟩
       ·rw[h2,h2]
       ·rw[h1,h2,h2,h1]
        funext q
        simp only[AH.put];by_cases Lv:q=s<;>by_cases Cj:q=s'
        ·exact absurd (Lv.symm.trans Cj) ye
        ·simp [Lv,ye]
        ·simp [Cj,Ne.symm ye]
        ·simp [Lv,Cj]
end
end
end Go.b8

namespace Go.b8
open Go.RowKit
section
variable {ops:Array Oper} {md:Region.Mode}
theorem Rs {e:Edge} (h:Region.binds .any e=true) (md:Region.Mode):Region.binds md e=true:=by
 unfold Region.binds at *;split at h<;>simp_all
theorem rE (ops:Array Oper) (md:Region.Mode) : ∀ (fuel t:Nat) (a9:Array Bool),a9.size=ops.size -> ∀ (k i:Nat),(Region.linearise.go md ops fuel t a9 [])[k]? = some i ->
  ∃ o,ops[i]? = some o /\ ∀ e∈o.after,Region.binds md e=true->a9.getD e.on false=true\/e.on∈(Region.linearise.go md ops fuel t a9 []).take k
 | 0,t,a9,hs,k,i,h=>by simp [Region.linearise.go]at h
 | fuel+1,t,a9,hs,k,i,h=>by
  have qp:Region.linearise.go md ops (fuel+1) t a9 []=match (Region.ready md ops a9)[t%(Region.ready md ops a9).length]? with
   | some i=>i::Region.linearise.go md ops fuel (t/(Region.ready md ops a9).length) (a9.setIfInBounds i true) []
   | none=>[]:=by
   simp only[Region.linearise.go];change (match (Region.ready md ops a9)[t%(Region.ready md ops a9).length]? with
    | some i=>Region.linearise.go md ops fuel (t/(Region.ready md ops a9).length) (a9.setIfInBounds i true) [i]
    | none=>[].reverse)=_
   cases (Region.ready md ops a9)[t%(Region.ready md ops a9).length]? with
   | none=>rfl
   | some i=>simp only[];rw[linearise_go_acc];rfl
  rw[qp]at h ⊢;cases hr:(Region.ready md ops a9)[t%(Region.ready md ops a9).length]? with
  | none=>rw[hr]at h;simp at h
  | some q =>
   rw[hr]at h;simp only at h ⊢;obtain ⟨_,oq,hoq,hq⟩:=mem_ready.1 (zM hr);cases k with
   | zero =>
    simp at h;subst h;exact ⟨oq,hoq,λ e he hb => .inl (hq e he hb)⟩
   | succ k =>
    simp at h;obtain ⟨o,ho,hh⟩:=rE ops md fuel _ _ (by simpa using hs) k i h;refine ⟨o,ho,λ e he hb => ?_⟩;rcases hh e he hb with h1|h1
    ·by_cases heq:e.on=q
     ·right;simp [heq]
     ·left
      rw[getD_set_ne false (Ne.symm heq)]at h1;exact h1
    ·right;simp [h1]
theorem dB {p:Nat->Bool} : ∀ (l:List Nat),(∃ i∈l,p i=false) -> ∃ k i,l[k]? = some i/\p i=false /\ ∀ j∈l.take k,p j=true
 | [],⟨i,hi,_⟩=>by simp at hi
 | x::r,⟨i,hi,hp⟩=>by
  cases hx:p x with
  | false=>exact ⟨0,x,rfl,hx,by simp⟩
  | true =>
   have : ∃ i∈r,p i=false:=by
    rcases List.mem_cons.1 hi with h|h
    ·subst h;rw[hx]at hp;cases hp
    ·exact ⟨i,h,hp⟩
   obtain ⟨k,j,h1,h2,h3⟩:=dB r this;refine ⟨k+1,j,by simpa using h1,h2,λ q hq => ?_⟩;simp only[List.take_succ_cons,List.mem_cons]at hq;rcases hq with h|h
   ·subst h;exact hx
   ·exact h3 q h
theorem progress {l:List AI} (hd:Q1 ops l=true) (Ga:md = .gc->Region.departs ops=true) {a9:Array Bool} (hs:a9.size=ops.size) (hr:Region.ready md ops a9=[]) : ∀ j,j<ops.size->a9.getD j false=true:=by
 intro j hj;cases db:a9.getD j false with
 | true=>rfl
 | false =>
  exfalso;simp only[Q1,Bool.and_eq_true]at hd;obtain ⟨⟨_,iq⟩,uq⟩:=hd;have ny : ∀ i,i<ops.size->a9.getD i false=false -> ¬ ∀ o,ops[i]? = some o -> ∀ e∈o.after,Region.binds md e=true->a9.getD e.on false=true:=λ i hi hl rh=>by
   have:i∈Region.ready md ops a9:=mem_ready.2 ⟨by
    have:i<a9.size:=by omega
    simp [Array.getD,this]at hl ⊢;exact hl,ops[i],Array.getElem?_eq_getElem hi,λ e he hb=>rh ops[i] (Array.getElem?_eq_getElem hi) e he hb⟩
   rw[hr]at this;simp at this
  by_cases Fq:md = .gc
  ·subst Fq
   rw[Ga rfl]at uq;simp only[Bool.not_true,Bool.false_or,List.all_eq_true,List.mem_range,List.contains_iff_mem]at uq;obtain ⟨k,i,h1,h2,h3⟩:=dB (p:=λ q=>a9.getD q false) (Region.linearise .gc ops 0) ⟨j,uq j hj,db⟩;obtain ⟨o,ho,hh⟩:=rE ops .gc ops.size 0 (Array.replicate ops.size false) (by simp) k i h1;have hi:i<ops.size:=(Array.getElem?_eq_some_iff.1 ho).1;refine ny i hi h2 λ o' xu e he hb => ?_
   rw[ho]at xu;obtain rfl:o=o':=by simpa using xu
   rcases hh e he hb with h4|h4
   ·simp [Array.getD]at h4
   ·exact h3 e.on h4
  ·obtain ⟨k,i,h1,h2,h3⟩:=dB (p:=λ q=>a9.getD q false) (List.range ops.size) ⟨j,by simpa using hj,db⟩
   have ka:i=k:=by
    have od:k<ops.size:=by have:=(zS h1).1;simpa using this
    rw[List.getElem?_range od]at h1;simpa using h1.symm
   subst ka;have hi:i<ops.size:=by have:=(zS h1).1;simpa using this
   refine ny i hi h2 λ o ho e he hb => ?_
   rw[List.all_eq_true]at iq;have se:(o,i)∈ops.toList.zipIdx:=List.mem_zipIdx_iff_getElem?.2 (by simpa using ho);have h4:=iq (o,i) se;simp only[Array.all_eq_true_iff_forall_mem,Bool.or_eq_true,decide_eq_true_eq]at h4;rcases h4 e he with h5|h5
   ·exact h3 e.on (by rw[List.take_range];simp;omega)
   ·exfalso
    unfold Region.binds at hb;split at h5
    ·rename_i row Mb
     rw[Mb]at hb;simp at hb;exact Fq hb
    ·cases h5
variable {B:Nat} {S:Nat->Prop} {w0:World} {m0:M} {N:Nat}
variable {P:Program} {num:Nat->Nat} {C:Cl} {Q:Exit->Act->World->Prop}
def R3 (a9:Array Bool) (n:Nat):Nat:=(List.range n).countP (λ j => !a9.getD j false)
theorem lO {α:Type} {p q:α->Bool} : ∀ {l:List α} {x:α},(∀ y∈l,q y=true->p y=true)->x∈l->p x=true->q x=false->l.countP q<l.countP p
 | [],x,_,hx,_,_=>by simp at hx
 | y::r,x,h,hx,hp,hq=>by
  have hle:r.countP q<=r.countP p:=List.countP_mono_left λ z hz hqz=>h z (by simp [hz]) hqz
  rw[List.countP_cons,List.countP_cons];rcases List.mem_cons.1 hx with rfl|hx
  ·simp only[hp,hq,if_true,Bool.false_eq_true,if_false]
   omega
  ·have:=lO (l:=r) (λ z hz=>h z (by simp [hz])) hx hp hq
   by_cases Lw:q y=true
   ·simp only[Lw,h y (by simp) Lw,if_true];omega
   ·simp only[Lw,Bool.false_eq_true,if_false]
    split<;>omega
theorem AhO (hC:GM P num C) {l:List AI} (g6:O9 P num N ops ops.toList l=true) {σ:Nat->St} {rs:List DI} (h:WN C ops l σ rs) (Ga:md = .gc->Region.departs ops=true)
  (hQ : ∀ m' a',m'.own=(σ l.length).own->FD B S w0 m0 N (e5 (σ l.length).tm) m' a'->Q .normal a' m'.w) :
  ∀ (fuel:Nat) (a9:Array Bool) (a:Act) (m:M),a9.size=ops.size->R3 a9 ops.size<=fuel->SC ops (λ j=>a9.getD j false)->m.own=(DN (λ j=>a9.getD j false) rs 0 (d0 σ)).2->FD B S w0 m0 N (DN (λ j=>a9.getD j false) rs 0 (d0 σ)).1 m a->wpAny P md ops Q fuel a9 a m.w:=by
 have hlen:ops.size=l.length:=by have:=(VH g6).1;simpa using this
 have final : ∀ (a9:Array Bool) (a:Act) (m:M),(∀ j,j<ops.size->a9.getD j false=true)->m.own=(DN (λ j=>a9.getD j false) rs 0 (d0 σ)).2->FD B S w0 m0 N (DN (λ j=>a9.getD j false) rs 0 (d0 σ)).1 m a->Q .normal a m.w:=λ a9 a m rh j6 hf=>by
  have:DN (λ j=>a9.getD j false) rs 0 (d0 σ)=(e5 (σ l.length).tm,(σ l.length).own):=by
   rw[<-bY h l.length (Nat.le_refl _)];refine YE rs 0 _ λ i hi => ?_
   simp only[Nat.zero_add];rw[rh i (by rw[hlen,<-h.len];exact hi)];simp;rw[<-h.len];exact hi
  rw[this]at j6 hf;exact hQ m a j6 hf
 have Ec : ∀ a9:Array Bool,R3 a9 ops.size<=0 -> ∀ j,j<ops.size->a9.getD j false=true:=λ a9 h0 j hj=>by
  have h1:R3 a9 ops.size=0:=by omega
  unfold R3 at h1;rw[List.countP_eq_zero]at h1;simpa using h1 j (by simpa using hj)
 intro fuel;induction fuel with
 | zero =>
  intro a9 a m o7 hn Fm j6 hf;refine ⟨?_,final a9 a m (Ec a9 hn) j6 hf⟩;cases hr:Region.ready md ops a9 with
  | nil=>rfl
  | cons i r =>
   obtain ⟨h1,o,ho,_⟩:=mem_ready.1 (show i∈Region.ready md ops a9 by rw[hr];simp);have hi:i<ops.size:=(Array.getElem?_eq_some_iff.1 ho).1;have h2:=Ec a9 hn i hi;have w5:i<a9.size:=by omega
   simp [Array.getD,w5]at h1 h2;rw[h1]at h2;cases h2
 | succ fuel ih =>
  intro a9 a m o7 hn Fm j6 hf;refine ⟨λ hr=>final a9 a m (progress h.ok Ga o7 hr) j6 hf,λ i hi => ?_⟩;obtain ⟨h1,o,ho,Bo⟩:=mem_ready.1 hi;have hio:i<ops.size:=(Array.getElem?_eq_some_iff.1 ho).1;have w5:i<a9.size:=by omega
  have uo:a9.getD i false=false:=by
   simp [Array.getD,w5]at h1 ⊢;exact h1
  have rz:i<l.length:=by omega
  have jn:i<rs.length:=by rw[h.len];exact rz
  have hx:l[i]? = some l[i]:=zE rz;have hr:rs[i]? = some rs[i]:=zE jn;have dc : ∀ o',ops[i]? = some o' -> ∀ e∈o'.after,Region.binds .any e=true->a9.getD e.on false=true:=λ o' xu e he hb=>by
   rw[ho]at xu;obtain rfl:o=o':=by simpa using xu
   exact Bo e he (Rs hb md)
  obtain ⟨g1,g2,g3,g4⟩:=Xj h hx hr Fm uo dc;have Lp:=(VH g6).2 i o l[i] (by simpa using ho) hx;have wg : ∀ j,(a9.setIfInBounds i true).getD j false=(decide (j=i)||a9.getD j false):=λ j=>by
   by_cases Lh:j=i
   ·subst Lh;simp [Array.getD,w5]
   ·rw[getD_set_ne false (Ne.symm Lh)];simp [Lh]
  refine xF hC ho Lp hf g1 (λ hg=>by rw[j6];exact g2 hg) λ m' a' ke ni => ?_
  have fu:=g4 _ wg;refine ih (a9.setIfInBounds i true) a' m' (by simpa using o7) ?_ ?_ ?_ ?_
  ·have g9:R3 (a9.setIfInBounds i true) ops.size<R3 a9 ops.size:=by
    refine lO (x:=i) (λ j _ hj => ?_) (by simpa using hio) (by simp [uo]) (by rw[wg];simp);rw[wg]at hj;simp at hj ⊢;exact hj.2
   omega
  ·intro j oj hj Ih e he hb
   change (a9.setIfInBounds i true).getD j false=true at hj;show (a9.setIfInBounds i true).getD e.on false=true;rw[wg]at hj ⊢;simp only[Bool.or_eq_true,decide_eq_true_eq]at hj ⊢;rcases hj with rfl|hj
   ·exact .inr (dc oj Ih e he hb)
   ·exact .inr (Fm j oj hj Ih e he hb)
  ·rw[fu,ke,j6]
   rfl
  ·rw[fu]
   rw[j6,g3]at ni;have hd:(l[i]).dst=(rs[i]).d:=(h.fits i _ _ hx hr).d.symm;rw[hd]at ni;exact ni
theorem AhP (hC:GM P num C) {id:Nat} {l:List AI} (g6:O9 P num N ops ops.toList l=true) (hd:Q1 ops l=true) {st j4:St} (g8:CZ C l st=some j4) {m:M} {a:Act} (j6:m.own=st.own) (hf:FD B S w0 m0 N (e5 st.tm) m a)
  (hQ : ∀ m' a',m'.own=j4.own->FD B S w0 m0 N (e5 j4.tm) m' a'->Q .normal a' m'.w):(Code.region id ops true).wp P Q a m.w:=by
 obtain ⟨σ,rs,h0,h1,hl,h2⟩:=trace g8;have hD:WN C ops l σ rs:=⟨hd,hl,h2⟩;obtain ⟨gq,Bn⟩:=grow hf.mem ((Below.refl m.w.heap.size m.w).drew);have rj:FD B S w0 m0 N (e5 st.tm) ⟨m.ν,m.own,m.w.drew⟩ a:=⟨gq,hf.ext.trans Bn,λ i=>Bn.cv (hf.tm i),hf.size,hf.defers⟩;have Nz:DN (λ j=>(Array.replicate ops.size false).getD j false) rs 0 (d0 σ)=d0 σ:=dF rs 0 _ λ i _=>by simp [Array.getD]
 have key : ∀ md:Region.Mode,(md = .gc->Region.departs ops=true) -> ∀ t,wpOps P ops Q (Region.linearise md ops t) a m.w.drew:=λ md Ga t=>by
  refine wpAny_sound ops.size t (Array.replicate ops.size false) a m.w.drew ?_;refine AhO hC g6 hD Ga (by rw[h1];exact hQ) ops.size _ a ⟨m.ν,m.own,m.w.drew⟩ (by simp) ?_ ?_ ?_ ?_
  ·unfold R3
   exact Nat.le_trans List.countP_le_length (by simp)
  ·intro j o hj
   simp [Array.getD]at hj
  ·rw[Nz];simp [d0,h0,j6]
  ·rw[Nz];simpa [d0,h0] using rj
 refine wp_region_draw λ t => ?_
 change wpOps P ops Q _ a m.w.drew;unfold Region.schedule;split
 ·exact key .any (λ h=>by cases h) t
 ·rename_i Fk
  have Ph:Region.departs ops=true:=by simp at Fk;exact Fk.2
  split
  ·exact key .text (λ_=>Ph) _
  ·exact key .gc (λ_=>Ph) _
end
end Go.b8

namespace Go.b8
open Go.RowKit
section
variable {B:Nat} {S:Nat->Prop} {w0:World} {m0:M} {N:Nat}
variable {P:Program} {num:Nat->Nat} {C:Cl}
theorem Ahw (m:Tm) (l:List Nat) (j:Nat):e5 (v8 m l) j=e5 m j\/e5 (v8 m l) j = .any:=by
 induction m with
 | nil=>exact .inl rfl
 | cons x r ih =>
  obtain ⟨i,v⟩:=x;simp only[v8];split
  ·by_cases h:j=i
   ·subst h
    rename_i hc;right
    clear ih;induction r with
    | nil=>rfl
    | cons y q ih =>
     obtain ⟨k,u⟩:=y;simp only[v8];split
     ·exact ih
     ·rename_i hk
      have : ¬ j=k:=λ e=>by subst e;exact hk hc
      simp only[e5,if_neg this];exact ih
   ·rcases ih with h1|h1
    ·left;simp only[e5,if_neg h];exact h1
    ·right;exact h1
  ·by_cases h:j=i
   ·left;simp [e5,h]
   ·simp only[e5,if_neg h]
    exact ih
inductive HN (P:Program) (num:Nat->Nat) (N:Nat):List It->List Item->Prop
 | nil:HN P num N [] []
 | code {c:Code} {a:BH} {k:List It} {t:List Item} (h:ER P num N c a=true) (hk:HN P num N k t):HN P num N (.code a::k) (.code c::t)
 | drop {ts ss:List Nat} {k:List It} {t:List Item} (hk:HN P num N k t):HN P num N (.jr ts ss::k) t
 | c7 {id:Nat} {k:List It} {t:List Item} (hk:HN P num N k t):HN P num N (.c7 id::k) (.inBlock id::t)
 | lp {c:Code} {a:BH} {k:List It} {t:List Item} (h:ER P num N c a=true) (hk:HN P num N k t):HN P num N (.lp a::k) (.inLoop c::t)
 | scope {c:Code} {k:List It} {t:List Item} (hk:HN P num N k t):HN P num N k (.inScope c::t)
theorem vT {b:Frame} {a:Act} {k:List Item} {cs:List Frame} {w:World} {c:Code}:step P (lone (b.at a (.inScope c::k)) cs w) = .next (lone (b.at a k) cs w) :=
 step_lone_go (by simp [stepG,stepG.exec,Frame.at])
theorem Ahm {b:Frame} {a:Act} {k:List Item} {cs:List Frame} {w:World} {c:Code}:step P (lone (b.at a (.code (.scope c)::k)) cs w) = .next (lone (b.at a (.code c :: .inScope c::k)) cs w) :=
 step_lone_go (by simp [stepG,stepG.exec,Frame.at])
theorem SZ {id:Nat} : ∀ {k:List It} {t:List Item},HN P num N k t -> ∀ {k':List It},DS id k=some k' -> ∃ t',exitTo id t=some t'/\HN P num N k' t'
 | _,_,.nil,k',h=>by simp [DS]at h
 | _,_,.code h0 hk,k',h=>by
  simp only[DS]at h;obtain ⟨t',h1,h2⟩:=SZ hk h;exact ⟨t',by simpa [exitTo] using h1,h2⟩
 | _,_,.drop hk,k',h=>by
  simp only[DS]at h;exact SZ hk h
 | _,_,.c7 (id:=Iu) hk,k',h=>by
  simp only[DS]at h;split at h
  ·rename_i he
   subst he;simp only[Option.some.injEq]at h;subst h;exact ⟨_,by simp [exitTo],hk⟩
  ·rename_i he
   obtain ⟨t',h1,h2⟩:=SZ hk h;exact ⟨t',by simpa [exitTo,he] using h1,h2⟩
 | _,_,.lp h0 hk,k',h=>by
  simp only[DS]at h;obtain ⟨t',h1,h2⟩:=SZ hk h;exact ⟨t',by simpa [exitTo] using h1,h2⟩
 | _,_,.scope hk,k',h=>by
  obtain ⟨t',h1,h2⟩:=SZ hk h;exact ⟨t',by simpa [exitTo] using h1,h2⟩
def jD (B:Nat) (S:Nat->Prop) (w0:World) (m0:M) (N:Nat) (P:Program) (b:Frame) (cs:List Frame) (Nl:Machine) (j4:St):Prop :=
 ∃ a' m' l7,Steps P Nl (lone { b.at a' l7 with mode := .returning } cs m'.w)/\m'.own=j4.own/\FD B S w0 m0 N (e5 j4.tm) m' a'
theorem AgN (hC:GM P num C) (b:Frame) (cs:List Frame) : ∀ (n:Nat) (k:List It) (st j4:St),run C n k st=some j4 -> ∀ (t:List Item),HN P num N k t -> ∀ (m:M) (a:Act),m.own=st.own->FD B S w0 m0 N (e5 st.tm) m a ->
  jD B S w0 m0 N P b cs (lone (b.at a t) cs m.w) j4:=by
 intro n;induction n with
 | zero=>intro k st j4 h;simp [run]at h
 | succ n ih =>
  intro k st j4 h t ht;have fin : ∀ (t:List Item),HN P num N [] t -> ∀ (m:M) (a:Act),m.own=st.own->FD B S w0 m0 N (e5 st.tm) m a->st=j4->jD B S w0 m0 N P b cs (lone (b.at a t) cs m.w) j4:=by
   intro t ht;generalize hk:([]:List It)=kk at ht;induction ht with
   | nil =>
    intro m a j6 hf he;subst he;exact ⟨a,m,[],.one step_end,j6,hf⟩
   | scope ic ow =>
    intro m a j6 hf he;obtain ⟨a',m',l7,h1,h2⟩:=ow hk m a j6 hf he;exact ⟨a',m',l7,.head vT h1,h2⟩
   | code=>cases hk
   | drop=>cases hk
   | c7=>cases hk
   | lp=>cases hk
  cases k with
  | nil =>
   intro m a j6 hf;simp only[run,Option.some.injEq]at h;exact fin t ht m a j6 hf h
  | cons it k =>
   generalize ji:it::k=kk at ht;induction ht with
   | nil=>cases ji
   | scope ic ow =>
    intro m a j6 hf;obtain ⟨a',m',l7,h1,h2⟩:=ow ji m a j6 hf;exact ⟨a',m',l7,.head vT h1,h2⟩
   | @c7 id k2 t2 ic ow =>
    intro m a j6 hf;obtain ⟨rfl,rfl⟩:it = .c7 id/\k=k2:=by simpa using ji
    simp only[run]at h;obtain ⟨a',m',l7,h1,h2⟩:=ih k st j4 h t2 ic m a j6 hf;exact ⟨a',m',l7,.head step_inBlock h1,h2⟩
   | @lp c ac k2 t2 g6 ic ow =>
    intro m a j6 hf;obtain ⟨rfl,rfl⟩:it = .lp ac/\k=k2:=by simpa using ji
    simp only[run]at h;obtain ⟨a',m',l7,h1,h2⟩:=ih _ st j4 h (.code c :: .inLoop c::t2) (.code g6 (.lp g6 ic)) m a j6 hf;exact ⟨a',m',l7,.head step_inLoop h1,h2⟩
   | @drop ts ss k2 t2 ic ow =>
    intro m a j6 hf;obtain ⟨rfl,rfl⟩:it = .jr ts ss/\k=k2:=by simpa using ji
    simp only[run]at h;obtain ⟨mc,he⟩:=Xl hf.mem ss;have ni:FD B S w0 m0 N (e5 (v8 st.tm ts)) ⟨m.ν,m.own.drop ss,m.w⟩ a:=⟨mc,hf.ext.trans he,λ i=>by
     rcases Ahw st.tm ts i with h1|h1
     ·rw[h1];exact he.cv (hf.tm i)
     ·rw[h1];exact .any _,hf.size,hf.defers⟩
    obtain ⟨a',m',l7,h1,h2,h3⟩:=ih k ⟨v8 st.tm ts,st.own.drop ss⟩ j4 h t2 ic ⟨m.ν,m.own.drop ss,m.w⟩ a (by simp [j6]) ni;exact ⟨a',m',l7,h1,h2,h3⟩
   | @code c ac k2 t2 g6 ic ow =>
    obtain ⟨rfl,rfl⟩:it = .code ac/\k=k2:=by simpa using ji
    clear ow ji;intro m a j6 hf;cases ac with
    | dr ac ts ss =>
     simp only[ER]at g6;simp only[run]at h;exact ih _ st j4 h _ (.code g6 (.drop ic)) m a j6 hf
    | skip =>
     simp only[run]at h;cases c with
     | skip =>
      obtain ⟨a',m',l7,h1,h2⟩:=ih _ st j4 h _ ic m a j6 hf;exact ⟨a',m',l7,.head step_skip h1,h2⟩
     | label =>
      obtain ⟨a',m',l7,h1,h2⟩:=ih _ st j4 h _ ic m a j6 hf;exact ⟨a',m',l7,.head step_label h1,h2⟩
     | _=>simp [ER]at g6
    | scope ac =>
     simp only[run]at h;cases c with
     | scope c =>
      simp only[ER]at g6;obtain ⟨a',m',l7,h1,h2⟩:=ih _ st j4 h _ (.code g6 (.scope (c:=c) ic)) m a j6 hf;exact ⟨a',m',l7,.head Ahm h1,h2⟩
     | _=>simp [ER]at g6
    | seq a1 a2 =>
     simp only[run]at h;cases c with
     | seq c1 c2 =>
      simp only[ER,Bool.and_eq_true]at g6;obtain ⟨a',m',l7,h1,h2⟩:=ih _ st j4 h _ (.code g6.1 (.code g6.2 ic)) m a j6 hf;exact ⟨a',m',l7,.head step_seq h1,h2⟩
     | _=>simp [ER]at g6
    | cond x a1 a2 =>
     simp only[run]at h;cases c with
     | cond xc c1 c2 =>
      simp only[ER,Bool.and_eq_true]at g6;have s9:CV B S m (st.ev x) (a.eval xc):=by rw[nU];exact hf.says xc x g6.1.1
      split at h
      ·rename_i hx
       rw[hx]at s9;obtain ⟨a',m',l7,h1,h2⟩:=ih _ st j4 h _ (.code g6.1.2 ic) m a j6 hf;exact ⟨a',m',l7,.head (step_cond (QZ s9)) h1,h2⟩
      ·rename_i hx
       rw[hx]at s9;obtain ⟨a',m',l7,h1,h2⟩:=ih _ st j4 h _ (.code g6.2 ic) m a j6 hf;exact ⟨a',m',l7,.head (step_cond (QZ s9)) h1,h2⟩
      ·cases h
     | _=>simp [ER]at g6
    | block id ac =>
     simp only[run]at h;cases c with
     | block Iu c =>
      simp only[ER,Bool.and_eq_true,beq_iff_eq]at g6;obtain ⟨rfl,g6⟩:=g6;obtain ⟨a',m',l7,h1,h2⟩:=ih _ st j4 h _ (.code g6 (.c7 ic)) m a j6 hf;exact ⟨a',m',l7,.head step_block h1,h2⟩
     | _=>simp [ER]at g6
    | loop ac =>
     simp only[run]at h;cases c with
     | loop c =>
      simp only[ER]at g6;obtain ⟨a',m',l7,h1,h2⟩:=ih _ st j4 h _ (.code g6 (.lp g6 ic)) m a j6 hf;exact ⟨a',m',l7,.head step_loop h1,h2⟩
     | _=>simp [ER]at g6
    | exit id =>
     simp only[run]at h;cases c with
     | exit Iu =>
      simp only[ER,beq_iff_eq]at g6;subst g6;split at h
      ·rename_i k' ig
       obtain ⟨t',e1,e2⟩:=SZ ic ig;obtain ⟨a',m',l7,h1,h2⟩:=ih _ st j4 h _ e2 m a j6 hf;exact ⟨a',m',l7,.head (step_exit e1) h1,h2⟩
      ·cases h
     | _=>simp [ER]at g6
    | ret =>
     simp only[run,Option.some.injEq]at h;subst h;cases c with
     | ret=>exact ⟨a,m,.code .ret::t2,.one step_ret,j6,hf⟩
     | _=>simp [ER]at g6
    | ops l draw =>
     simp only[run]at h;split at h
     ·rename_i A7 Gw
      cases c with
      | region id ops qi =>
       simp only[ER,Bool.and_eq_true,beq_iff_eq]at g6;obtain ⟨⟨rfl,Gi⟩,je⟩:=g6;have hwp:(Code.region id ops qi).wp P (λ e a' w'=>e = .normal /\ ∃ m',m'.w=w'/\m'.own=A7.own/\FD B S w0 m0 N (e5 A7.tm) m' a') a m.w:=by
        cases qi with
        | true=>exact AhP hC Gi (by simpa using je) Gw j6 hf λ m' a' h1 h2=>⟨rfl,m',rfl,h1,h2⟩
        | false =>
         refine wp_region ?_;rw[List.range_eq_range'];exact xG hC Gi ops.size 0 st A7 m a (by omega) (by simpa using Gw) j6 hf λ m' a' h1 h2=>⟨rfl,m',rfl,h1,h2⟩
       obtain ⟨e,a1,w1,⟨rfl,m1,rfl,Gk,rj⟩,Kl⟩:=hwp b t2 cs;obtain ⟨a',m',l7,h1,h2,h3⟩:=ih _ A7 j4 h _ ic m1 a1 Gk rj;exact ⟨a',m',l7,Steps.trans Kl h1,h2,h3⟩
      | _=>simp [ER]at g6
     ·cases h
end
end Go.b8
