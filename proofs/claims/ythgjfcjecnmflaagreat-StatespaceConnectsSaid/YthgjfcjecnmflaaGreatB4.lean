/-
  Calls: readings handed over and handed back.
-/
import Derived.Test.YthgjfcjecnmflaaGreatB3
import Derived.Orders
set_option linter.unusedSimpArgs false
set_option linter.unusedVariables false
set_option linter.unnecessarySimpa false
namespace Go.e9
open Go.RowKit
theorem OU {α β:Type} (f:α->Option β) : ∀ {l:List α} {l':List β},l.mapM f=some l'->l.length=l'.length /\ ∀ (i:Nat) (x:α),l[i]? = some x -> ∃ y,l'[i]? = some y/\f x=some y
 | [],l',h=>by
  simp at h;subst h;exact ⟨rfl,λ i x hx=>by simp at hx⟩
 | x::r,l',h=>by
  simp only[List.mapM_cons,Option.bind_eq_bind,Option.pure_def]at h;cases hx:f x with
  | none=>simp [hx]at h
  | some y =>
   cases hr:r.mapM f with
   | none=>simp [hx,hr]at h
   | some r' =>
    simp [hx,hr]at h;subst h;obtain ⟨h1,h2⟩:=OU f hr;refine ⟨by simp [h1],λ i z hz => ?_⟩;cases i with
    | zero=>simp at hz;subst hz;exact ⟨y,rfl,hx⟩
    | succ i=>exact h2 i z (by simpa using hz)
section
variable {B:Nat} {S:Nat->Prop} {w0:World} {m:M}
variable {P:Program} {num:Nat->Nat} {o:Oper} {a:Act} {ρ:AP->AV}
theorem qL (hm:BR B S w0 m) (l0:Bool) (R:Bool->Nat->Prop) (hR : ∀ l b,b<m.w.heap.size->safe B S m l b->R l b) (hL : ∀ s t g,live m s t->m.ν s t=some g->R l0 g) :
  ∀ (d:Nat) (c c':AV) (v:Value),snap m.own l0 d c=some c'->CC B S m c v->Rd m.w R c' v:=by
 intro d;induction d with
 | zero =>
  intro c c' v h hc;cases hc with
  | rd hr =>
   have:c'=c:=by cases hr<;>simp [snap]at h<;>exact h.symm
   subst this;exact hr.mono hR (λ_ _ _ _=>rfl)
  | nil=>simp [snap]at h;subst h;exact .gn _ _ _
  | _=>simp [snap]at h
 | succ d ih =>
  intro c c' v h hc;cases hc with
  | rd hr =>
   have:c'=c:=by cases hr<;>simp [snap]at h<;>exact h.symm
   subst this;exact hr.mono hR (λ_ _ _ _=>rfl)
  | nil=>simp [snap]at h;subst h;exact .gn _ _ _
  | ptr=>simp [snap]at h
  | s8=>simp [snap]at h
  | row s t z off len ad cap ht bu lk ha hb =>
   simp only[snap]at h;cases de:EJ m.own (.row s t z off len) with
   | none=>simp [de]at h
   | some es =>
    simp only[de]at h;cases gb:es.mapM (λ cs:List AV=>cs.mapM (snap m.own l0 d)) with
    | none=>simp [gb]at h
    | some es' =>
     simp [gb]at h;subst h;have Gy:(∀ e∈es,e.length=z)/\es.length=len /\ ∃ b,m.own.get s t=some b:=by
      simp only[EJ]at de;cases o4:m.own.get s t with
      | none=>simp [o4]at de
      | some b =>
       simp only[o4]at de;split at de
       ·rename_i hle
        obtain rfl:=Option.some.inj de;refine ⟨λ e he => ?_,by simp;omega,b,rfl⟩;rw[<-hle.2];exact (hm.e6 s t b o4).1 e (List.mem_of_mem_drop (List.mem_of_mem_take he))
       ·cases de
     obtain ⟨hz,hlen,b,o4⟩:=Gy;have u7:CV B S m (.row s t z off len) (.slice ad len cap):= .ca (.one (.row s t z off len ad cap ht bu lk ha hb));obtain ⟨Wj,Dq,news,Da,hE⟩:=ZV hm u7 de hz bu;obtain ⟨rfl,_,rfl⟩:ad=Wj/\len=es.length/\cap=Dq:=by simpa using Da
     obtain ⟨kj,qf⟩:=OU _ gb;by_cases h0:es=[]
     ·subst h0
      have:es'=[]:=List.eq_nil_of_length_eq_zero (by rw[<-kj];rfl)
      subst this;have:len=0:=by rw[<-hlen];rfl
      subst this;exact .gn _ _ _
     ·obtain ⟨_,dh⟩:=hb b o4
      rcases dh with ⟨Zg,_⟩|⟨g,arr,e',hg,jc,hh,Et⟩
      ·exact absurd (List.eq_nil_of_length_eq_zero (by omega)) h0
      ·rw[jc,<-hlen,kj]
       refine .sl l0 es' g (off*z) z cap (λ i j=>news.getD (i*z+j) undef) (λ e=>h0 (List.eq_nil_of_length_eq_zero (by rw[kj,e];rfl))) bu (hL s t g ⟨b,o4⟩ hg) (by omega) (λ e' ga => ?_) (λ i e hi j c hj => ?_) (λ i e hi j c hj => ?_)
       ·obtain ⟨i,hi,rfl⟩:=List.getElem_of_mem ga
        have q5:i<es.length:=by omega
        obtain ⟨y,hy,fb⟩:=qf i es[i] (zE q5);have:es'[i]=y:=by
         have:=(zS hy).2;exact this
        rw[this,<-(OU _ fb).1];exact hz _ (List.getElem_mem q5)
       ·have q5:i<es.length:=by rw[kj];exact (zS hi).1
        obtain ⟨y,hy,fb⟩:=qf i es[i] (zE q5);rw[hi]at hy;obtain rfl:e=y:=by simpa using hy
        obtain ⟨iv,_⟩:=OU _ fb;have yk:j<(es[i]).length:=by rw[iv];exact (zS hj).1
        obtain ⟨u,hu,dv⟩:=hE.rel i es[i] (zE q5) j _ (zE yk);have:=hE.cells _ jc (i*z+j) u hu
        rw[G5]at this;simp only[List.getD,hu,Option.getD_some];exact this
       ·have q5:i<es.length:=by rw[kj];exact (zS hi).1
        obtain ⟨y,hy,fb⟩:=qf i es[i] (zE q5);rw[hi]at hy;obtain rfl:e=y:=by simpa using hy
        obtain ⟨iv,iu⟩:=OU _ fb;have yk:j<(es[i]).length:=by rw[iv];exact (zS hj).1
        obtain ⟨u,hu,dv⟩:=hE.rel i es[i] (zE q5) j _ (zE yk);obtain ⟨c2,ow,ql⟩:=iu j _ (zE yk);rw[hj]at ow;obtain rfl:c=c2:=by simpa using ow
        simp only[List.getD,hu,Option.getD_some];exact ih _ _ _ ql dv
def DA (w:World) (R:Bool->Nat->Prop) (c:AV) (v:Value):Prop :=
 Rd w R c v \/ ∃ (cs:List AV) (vs:List Value),c = .agg cs/\v = .agg vs.toArray/\cs.length=vs.length /\ ∀ (j:Nat) (x:AV) (u:Value),cs[j]? = some x->vs[j]? = some u->Rd w R x u
theorem YB (hm:BR B S w0 m) (l0:Bool) (R:Bool->Nat->Prop) (hR : ∀ l b,b<m.w.heap.size->safe B S m l b->R l b) (hL : ∀ s t g,live m s t->m.ν s t=some g->R l0 g)
  {c c':AV} {v:Value} (h:C0 m.own l0 c=some c') (hc:CV B S m c v):DA m.w R c' v:=by
 cases hc with
 | any v=>simp [C0,snap]at h
 | j4=>simp [C0,snap]at h
 | ca hc=>cases hc with
  | one hc =>
   have h':snap m.own l0 6 c=some c':=by
    cases hc with
    | rd hr=>cases hr<;>simpa [C0] using h
    | _=>simpa [C0] using h
   exact Or.inl (qL hm l0 R hR hL 6 c c' v h' hc)
  | fn=>simp [C0,snap]at h
  | po=>simp [C0,snap]at h
  | agg cs vs j6 =>
   simp only[C0]at h;cases iq:cs.mapM (snap m.own l0 6) with
   | none=>simp [iq]at h
   | some dc =>
    simp [iq]at h;subst h;obtain ⟨h1,h2⟩:=OU _ iq;refine Or.inr ⟨dc,vs,rfl,rfl,h1.symm.trans j6.1,λ j x u hx hu => ?_⟩;have hj:j<cs.length:=by rw[h1];exact (zS hx).1
    obtain ⟨y,hy,fb⟩:=h2 j cs[j] (zE hj);rw[hx]at hy;obtain rfl:x=y:=by simpa using hy
    exact qL hm l0 R hR hL 6 _ _ _ fb (j6.2 j cs[j] u (zE hj) hu)
def DV (w:World) (R:Bool->Nat->Prop) (c:AV) (v:Value):Prop :=
 DA w R c v \/ ∃ (cs:List AV) (vs:List Value),c = .j4 cs/\v = .tuple vs.toArray/\cs.length=vs.length /\ ∀ (j:Nat) (x:AV) (u:Value),cs[j]? = some x->vs[j]? = some u->DA w R x u
theorem Vx (hm:BR B S w0 m) (l0:Bool) (R:Bool->Nat->Prop) (hR : ∀ l b,b<m.w.heap.size->safe B S m l b->R l b) (hL : ∀ s t g,live m s t->m.ν s t=some g->R l0 g)
  {c c':AV} {v:Value} (h:PT m.own l0 c=some c') (hc:CV B S m c v):DV m.w R c' v:=by
 by_cases ht : ∃ cs,c = .j4 cs
 ·obtain ⟨cs,rfl⟩:=ht
  obtain ⟨vs,rfl,hl,y7⟩:=ZI hc;simp only[PT]at h;cases iq:cs.mapM (C0 m.own l0) with
  | none=>simp [iq]at h
  | some dc =>
   simp [iq]at h;subst h;obtain ⟨h1,h2⟩:=OU _ iq;refine Or.inr ⟨dc,vs,rfl,rfl,h1.symm.trans hl,λ j x u hx hu => ?_⟩;have hj:j<cs.length:=by rw[h1];exact (zS hx).1
   obtain ⟨y,hy,fb⟩:=h2 j cs[j] (zE hj);rw[hx]at hy;obtain rfl:x=y:=by simpa using hy
   exact YB hm l0 R hR hL fb (.ca (y7 j cs[j] u (zE hj) hu))
 ·have h':C0 m.own l0 c=some c':=by
   cases c<;>first|exact h|exact absurd ⟨_,rfl⟩ ht
  exact Or.inl (YB hm l0 R hR hL h' hc)
theorem DA.ca {B:Nat} {S:Nat->Prop} {m:M} {c:AV} {v:Value} (h:DA m.w (safe B S m) c v):CA B S m c v:=by
 rcases h with h|⟨cs,vs,rfl,rfl,hl,hh⟩
 ·exact .one (.rd h)
 ·exact .agg cs vs ⟨hl,λ j x u hx hu => .rd (hh j x u hx hu)⟩
theorem DV.cv {B:Nat} {S:Nat->Prop} {m:M} {c:AV} {v:Value} (h:DV m.w (safe B S m) c v):CV B S m c v:=by
 rcases h with h|⟨cs,vs,rfl,rfl,hl,hh⟩
 ·exact .ca h.ca
 ·exact .j4 cs vs hl λ j x u hx hu=>(hh j x u hx hu).ca
theorem NY : ∀ {cs:List AV},C6 cs -> ∀ (j:Nat) (c:AV),cs[j]? = some c->A6 c
 | [],_,j,c,h=>by simp at h
 | x::r,hc,j,c,h=>by
  unfold C6 at hc;cases j with
  | zero=>simp at h;subst h;exact hc.1
  | succ j=>exact NY hc.2 j c (by simpa using h)
theorem WE : ∀ {cs:List (List AV)},F9 cs -> ∀ (j:Nat) (c:List AV),cs[j]? = some c->C6 c
 | [],_,j,c,h=>by simp at h
 | x::r,hc,j,c,h=>by
  unfold F9 at hc;cases j with
  | zero=>simp at h;subst h;exact hc.1
  | succ j=>exact WE hc.2 j c (by simpa using h)
theorem Rd.clean {w:World} {R R':Bool->Nat->Prop} (hR : ∀ b,b<w.heap.size->R false b->R' false b) {c:AV} {v:Value} (h:Rd w R c v) (hc:A6 c):Rd w R' c v:=by
 induction h with
 | int k n=>exact .int k n
 | bool b=>exact .bool b
 | str s=>exact .str s
 | jn=>exact .jn
 | gn l a cap=>exact .gn l a cap
 | emp b a cap h=>exact .emp b a cap h
 | sl l es b o a8 cap u m8 hp h1 aw hz j6 hr ih =>
  unfold A6 at hc;obtain ⟨rfl,hc⟩:=hc;obtain ⟨e,c,he,fy⟩:=UA m8 hp hz;have hb:b<w.heap.size:=QB (j6 0 e he 0 c fy);exact .sl false es b o a8 cap u m8 hp (hR b hb h1) aw hz j6 λ i e he j c hj=>ih i e he j c hj (NY (WE hc i e he) j c hj)
theorem DA.clean {w:World} {R R':Bool->Nat->Prop} (hR : ∀ b,b<w.heap.size->R false b->R' false b) {c:AV} {v:Value} (h:DA w R c v) (hc:A6 c):DA w R' c v:=by
 rcases h with h|⟨cs,vs,rfl,rfl,hl,hh⟩
 ·exact Or.inl (h.clean hR hc)
 ·unfold A6 at hc
  exact Or.inr ⟨cs,vs,rfl,rfl,hl,λ j x u hx hu=>(hh j x u hx hu).clean hR (NY hc j x hx)⟩
theorem DV.clean {w:World} {R R':Bool->Nat->Prop} (hR : ∀ b,b<w.heap.size->R false b->R' false b) {c:AV} {v:Value} (h:DV w R c v) (hc:A6 c):DV w R' c v:=by
 rcases h with h|⟨cs,vs,rfl,rfl,hl,hh⟩
 ·exact Or.inl (h.clean hR hc)
 ·unfold A6 at hc
  exact Or.inr ⟨cs,vs,rfl,rfl,hl,λ j x u hx hu=>(hh j x u hx hu).clean hR (NY hc j x hx)⟩
theorem ZH {B:Nat} {S:Nat->Prop} {m:M} {c:AV} {v:Value} (h:CV B S m c v) (hc:A6 c):DV m.w (safe B S m) c v:=by
 have one : ∀ {c:AV} {v:Value},CC B S m c v->A6 c->Rd m.w (safe B S m) c v:=λ h hc=>by
  cases h with
  | rd h=>exact h
  | _=>unfold A6 at hc;exact hc.elim
 have ca : ∀ {c:AV} {v:Value},CA B S m c v->A6 c->DA m.w (safe B S m) c v:=λ h hc=>by
  cases h with
  | one h=>exact Or.inl (one h hc)
  | fn=>unfold A6 at hc;exact hc.elim
  | po=>unfold A6 at hc;exact hc.elim
  | agg cs vs h =>
   unfold A6 at hc;exact Or.inr ⟨cs,vs,rfl,rfl,h.1,λ j x u hx hu=>one (h.2 j x u hx hu) (NY hc j x hx)⟩
 cases h with
 | any v=>unfold A6 at hc;exact hc.elim
 | ca h=>exact Or.inl (ca h hc)
 | j4 as vs hl h =>
  unfold A6 at hc;exact Or.inr ⟨as,vs,rfl,rfl,hl,λ j x u hx hu=>ca (h j x u hx hu) (NY hc j x hx)⟩
theorem X4 {f:Nat} {xs:Array Operand} {ts:Array TypeId} (k9:o.op = .call ⟨.value (.func f),xs,ts⟩) {w:World} (h:(callFunc f (xs.map a.eval)).run P w = .ok (.enter f (xs.map a.eval)) w):(execOp a.eval o).run P w = .ok (.enter f (xs.map a.eval)) w:=by
 simp [execOp,k9,resolve,Deferred.ofValue,Act.eval,invoke];exact h
theorem iP {C:Cl} (hC:GS P num C) (hm:BR B S w0 m) {f:Nat} {us:List Value} {as:List AV} (hl:us.length=as.length) (hx : ∀ (j:Nat) (v:Value) (c:AV),us[j]? = some v->as[j]? = some c->CV B S m c v) (hex : ∀ w:World,(callFunc (num f) us.toArray).run P w = .ok (.enter (num f) us.toArray) w->(execOp a.eval o).run P w = .ok (.enter (num f) us.toArray) w) {vs:List AV} {r:AV} (hv:as.mapM (C0 m.own true)=some vs) (hr:C.pure f vs=some r):CY B S w0 P o a m (.val r):=by
 obtain ⟨iv,iu⟩:=OU _ hv;have il : ∀ (j:Nat) (c:AV) (v:Value),vs[j]? = some c->us[j]? = some v->CA m.w.heap.size (safe B S m false) ⟨λ_ _=>none,AH.emp,m.w⟩ c v:=by
  intro j c v hc pe;have ek:j<as.length:=by rw[<-hl];exact (zS pe).1
  obtain ⟨y,hy,fb⟩:=iu j as[j] (zE ek);rw[hc]at hy;obtain rfl:c=y:=by simpa using hy
  have u7:=hx j v as[j] pe (zE ek);have wk:=YB hm true (safe m.w.heap.size (safe B S m false) ⟨λ_ _=>none,AH.emp,m.w⟩) (λ l b hb tf=>by
   cases l with
   | false=>exact .inl ⟨tf,hb⟩
   | true=>exact .inr (.inr ⟨rfl,hb⟩)) (λ s t g gx hg=>by
   obtain ⟨_,arr,e,hh⟩:=hm.ge gx hg;exact .inr (.inr ⟨rfl,(Array.getElem?_eq_some_iff.1 hh).1⟩)) fb u7
  exact DA.ca (m:=⟨λ_ _=>none,AH.emp,m.w⟩) wk
 have dm:=hC.pure f vs r hr (safe B S m false) m.w us (by rw[<-iv];exact hl.symm) il;intro K Q hK;unfold Oper.wp;rw[hex _ (hC.pn f vs r hr _ _)];refine Calls.mono dm λ e w' ⟨u,ga,fx,u7,j6⟩ => ?_
 subst ga;obtain ⟨js,ef⟩:=grow hm fx;refine hK u ⟨m.ν,m.own,w'⟩ rfl js ef ?_;refine DV.cv (m:=⟨m.ν,m.own,w'⟩) ((ZH u7 j6).clean (λ b hb tf => ?_) j6);rcases tf with ⟨h1,h2⟩|⟨h1,_⟩|⟨h1,_⟩
 ·exact ef.vi false b h2 h1
 ·refine .inr (.inl ⟨Nat.le_trans hm.size h1,λ s t gx hg => ?_⟩)
  obtain ⟨b',k8⟩:=Option.isSome_iff_exists.1 gx;obtain ⟨_,arr,e,hh⟩:=hm.ge ⟨b',k8⟩ hg;have:=(Array.getElem?_eq_some_iff.1 hh).1
  omega
 ·cases h1
theorem iO {C:Cl} (hC:GS P num C) (hm:BR B S w0 m) (hs:CX B S m ρ a.eval) {f:Nat} {xs:Array Operand} {o3:List AP} (he:D8 xs.toList o3=true) (hex : ∀ w:World,(callFunc (num f) (xs.map a.eval)).run P w = .ok (.enter (num f) (xs.map a.eval)) w->(execOp a.eval o).run P w = .ok (.enter (num f) (xs.map a.eval)) w) {vs:List AV} {r:AV} (hv:(o3.map ρ).mapM (C0 m.own true)=some vs) (hr:C.pure f vs=some r):CY B S w0 P o a m (.val r):=by
 obtain ⟨hl,hx⟩:=QL hs he;have eo:(xs.map a.eval)=(xs.toList.map a.eval).toArray:=by cases xs;simp
 rw[eo]at hex;refine iP hC hm (us:=xs.toList.map a.eval) (as:=o3.map ρ) (by simp [hl]) (λ j v c h1 h2 => ?_) hex hv hr;rw[List.getElem?_map]at h1 h2;cases ix:xs.toList[j]? with
 | none=>simp [ix]at h1
 | some x =>
  cases lv:o3[j]? with
  | none=>simp [lv]at h2
  | some y =>
   simp only[ix,lv,Option.map_some,Option.some.injEq]at h1 h2;subst h1 h2;exact hx j x y ix lv
theorem zJ {C:Cl} (hC:GS P num C) (hm:BR B S w0 m) (hs:CX B S m ρ a.eval) {f:Nat} {o3:List AP} (h:BB P num o.op (.call f o3)=true) {vs:List AV} {r:AV} (hv:(o3.map ρ).mapM (C0 m.own true)=some vs) (hr:C.pure f vs=some r):CY B S w0 P o a m (.val r):=by
 obtain ⟨xs,ts,k9,he⟩:=aW h;exact iO hC hm hs he (λ w h=>X4 k9 h) hv hr
theorem iL {C:Cl} (hC:GS P num C) (hm:BR B S w0 m) (hs:CX B S m ρ a.eval) {f:Nat} {o3:List AP} (h:BB P num o.op (.e8 f o3)=true) {r:AV} {l8:AH} (hr:C.fi f (o3.map ρ) m.own=some (r,l8)):CY B S w0 P o a m (.cr r l8):=by
 obtain ⟨xs,ts,k9,he⟩:=Rw h;obtain ⟨hl,hx⟩:=QL hs he;have eo:(xs.map a.eval)=(xs.toList.map a.eval).toArray:=by cases xs;simp
 have dm:=hC.fi f (o3.map ρ) m.own r l8 hr B S w0 m (xs.toList.map a.eval) rfl hm (by simp [hl]) (λ j c v hc hv=>by
  rw[List.getElem?_map]at hc hv;cases ix:xs.toList[j]? with
  | none=>simp [ix]at hv
  | some x =>
   cases lv:o3[j]? with
   | none=>simp [lv]at hc
   | some y =>
    simp [ix]at hv;simp [lv]at hc;subst hv hc;exact hx j x y ix lv)
 intro K Q hK;unfold Oper.wp;rw[X4 k9 (hC.mo f _ _ _ hr _ _),eo];refine Calls.mono dm λ e w' ⟨u,m',ga,hw,k7,js,ef,u7⟩ => ?_
 subst ga hw;exact hK u m' k7 js ef u7
theorem wB (hm:BR B S w0 m) {w':World} (hb:Below m.w.heap.size m.w w') (s:Nat) (b:DZ) (gg:Option Nat) (hz : ∀ x∈b.es,x.length=b.a8)
  (hg:match gg with|none=>b.es=[]|some g=>m.w.heap.size<=g /\ ∃ arr e,w'.heap[g]? = some (.cells arr e (0,0)) /\ ∀ i cs,b.es[i]? = some cs -> ∀ j c,cs[j]? = some c -> ∃ u,arr[i*b.a8+j]? = some u/\CC B S ⟨j5 m s gg,m.own.put s ((m.own s).new b),w'⟩ c u) :
  BR B S w0 ⟨j5 m s gg,m.own.put s ((m.own s).new b),w'⟩/\DI B S m ⟨j5 m s gg,m.own.put s ((m.own s).new b),w'⟩:=by
 have hν : ∀ s' t',live m s' t'->j5 m s gg s' t'=m.ν s' t':=λ s' t' hl=>by
  unfold j5;rw[if_neg];rintro ⟨rfl,rfl⟩
  exact XM hm _ hl
 have kg : ∀ g,gg=some g->m.w.heap.size<=g:=λ g e=>by subst e;exact hg.1
 have he:DI B S m ⟨j5 m s gg,m.own.put s ((m.own s).new b),w'⟩:=by
  refine QP hm hb.size (λ k hk _=>hb.block k hk) (λ s' => ?_) (λ s' t' b' ht k8 => ?_) (λ s' t' g hl df l7 => ?_)
  ·rw[J7];split
   ·rename_i h;subst h;omega
   ·exact Nat.le_refl _
  ·rw[F4]at k8
   rw[if_neg (by rintro ⟨rfl,rfl⟩;omega)]at k8;refine ⟨b',k8,rfl,hν s' t' ⟨b',k8⟩,λ g ar e' df ha=>⟨ar,?_,rfl⟩⟩;exact (hb.block g (Array.getElem?_eq_some_iff.1 ha).1).trans ha
  ·obtain ⟨b',k8⟩:=hl
   rw[F4]at k8;by_cases h:s'=s/\t'=m.own.g8 s
   ·simp only[j5,if_pos h]at df
    have:=kg g df
    omega
   ·rw[if_neg h]at k8
    exact ⟨s',t',⟨b',k8⟩,by rw[<-hν s' t' ⟨b',k8⟩];exact df⟩
 refine ⟨⟨hm.below.trans (hb.mono hm.size),Nat.le_trans hm.size hb.size,λ s' t' ht => ?_,λ s' t' b' k8 => ?_,λ s1 t1 s2 t2 b1 b2 g h1 h2 g1 g2 => ?_⟩,he⟩
 ·rw[J7]at ht
  rw[F4,if_neg]
  ·refine hm.fresh s' t' ?_
   split at ht
   ·rename_i h;subst h;omega
   ·exact ht
  ·rintro ⟨rfl,rfl⟩
   simp at ht;omega
 ·rw[F4]at k8
  by_cases h:s'=s/\t'=m.own.g8 s
  ·rw[if_pos h]at k8
   obtain rfl:b=b':=by simpa using k8
   refine ⟨hz,?_⟩;show match j5 m s gg s' t' with|none=>_|some g=>_
   rw[show j5 m s gg s' t'=gg by simp [j5,h]];cases gg with
   | none=>exact hg
   | some g=>exact ⟨Nat.le_trans hm.size hg.1,hg.2⟩
  ·rw[if_neg h]at k8
   obtain ⟨h1,h2⟩:=hm.e6 s' t' b' k8;refine ⟨h1,?_⟩;show match j5 m s gg s' t' with|none=>_|some g=>_
   rw[hν s' t' ⟨b',k8⟩];cases hv:m.ν s' t' with
   | none=>rw[hv]at h2;exact h2
   | some g =>
    rw[hv]at h2;obtain ⟨h3,ar,e',h4,h5⟩:=h2;refine ⟨h3,ar,e',(hb.block g (Array.getElem?_eq_some_iff.1 h4).1).trans h4,λ i cs hi j c hj => ?_⟩;obtain ⟨u,hu,y7⟩:=h5 i cs hi j c hj;exact ⟨u,hu,he.cc y7⟩
 ·rw[F4]at h1 h2
  have lt : ∀ s' t' b',m.own.get s' t'=some b'->j5 m s gg s' t'=some g->g<m.w.heap.size:=λ s' t' b' k8 df=>by
   rw[hν s' t' ⟨b',k8⟩]at df;obtain ⟨_,ar,e',h4⟩:=hm.ge ⟨b',k8⟩ df;exact (Array.getElem?_eq_some_iff.1 h4).1
  have at_ : ∀ s' t',s'=s/\t'=m.own.g8 s->j5 m s gg s' t'=some g->m.w.heap.size<=g:=λ s' t' h df=>by
   simp only[j5,if_pos h]at df;exact kg g df
  by_cases p1:s1=s/\t1=m.own.g8 s<;>by_cases p2:s2=s/\t2=m.own.g8 s
  ·exact ⟨p1.1.trans p2.1.symm,p1.2.trans p2.2.symm⟩
  ·rw[if_neg p2]at h2
   have:=lt s2 t2 b2 h2 g2
   have:=at_ s1 t1 p1 g1
   omega
  ·rw[if_neg p1]at h1
   have:=lt s1 t1 b1 h1 g1
   have:=at_ s2 t2 p2 g2
   omega
  ·rw[if_neg p1]at h1
   rw[if_neg p2]at h2;exact hm.inj s1 t1 s2 t2 b1 b2 g h1 h2 (by rw[<-hν s1 t1 ⟨b1,h1⟩];exact g1) (by rw[<-hν s2 t2 ⟨b2,h2⟩];exact g2)
theorem zO {C:Cl} (hC:GS P num C) (hm:BR B S w0 m) (hs:CX B S m ρ a.eval) {s f:Nat} {o3:List AP} (h:BB P num o.op (.m6 s f o3)=true) {vs:List AV} (hv:(o3.map ρ).mapM (OA m.own true)=some vs) {z:Nat} {es:List (List AV)} (hr:NT (C.fi f vs AH.emp)=some (z,es)) :
  CY B S w0 P o a m (.new s ⟨z,es⟩ (λ t => .row s t z 0 es.length)):=by
 obtain ⟨xs,ts,k9,he⟩:=aW (Ry h);obtain ⟨s0,t0,o',b0,Ip,o4,rfl,j6⟩:=wA hr;obtain ⟨hl,hx⟩:=QL hs he;obtain ⟨iv,iu⟩:=OU _ hv;have eo:(xs.map a.eval)=(xs.toList.map a.eval).toArray:=by cases xs;simp
 have il : ∀ (j:Nat) (c:AV) (v:Value),vs[j]? = some c->(xs.toList.map a.eval)[j]? = some v->CV m.w.heap.size (safe B S m false) ⟨λ_ _=>none,AH.emp,m.w⟩ c v:=by
  intro j c v hc pe;rw[List.getElem?_map]at pe;cases ix:xs.toList[j]? with
  | none=>simp [ix]at pe
  | some x =>
   simp [ix]at pe;subst pe;have ek:j<o3.length:=by rw[<-hl];exact (zS ix).1
   obtain ⟨y,hy,fb⟩:=iu j (ρ o3[j]) (by rw[List.getElem?_map,zE ek];rfl);rw[hc]at hy;obtain rfl:c=y:=by simpa using hy
   have u7:=hx j x o3[j] ix (zE ek);have hN:(ρ o3[j] = .nil/\c = .nil)\/C0 m.own true (ρ o3[j])=some c:=by
    cases e:ρ o3[j] with
    | nil=>rw[e]at fb;exact .inl ⟨rfl,(Option.some.inj fb).symm⟩
    | _=>rw[e]at fb;exact .inr fb
   rcases hN with ⟨e1,rfl⟩|fb
   ·rw[e1]at u7
    rw[R5 u7];exact .ca (.one .nil)
   have wk:=YB hm true (safe m.w.heap.size (safe B S m false) ⟨λ_ _=>none,AH.emp,m.w⟩) (λ l b hb tf=>by
    cases l with
    | false=>exact .inl ⟨tf,hb⟩
    | true=>exact .inr (.inr ⟨rfl,hb⟩)) (λ s t g gx hg=>by
    obtain ⟨_,arr,e,hh⟩:=hm.ge gx hg;exact .inr (.inr ⟨rfl,(Array.getElem?_eq_some_iff.1 hh).1⟩)) fb u7
   exact .ca (DA.ca (m:=⟨λ_ _=>none,AH.emp,m.w⟩) wk)
 have Zk:BR m.w.heap.size (safe B S m false) m.w ⟨λ_ _=>none,AH.emp,m.w⟩:=⟨Below.refl _ _,Nat.le_refl _,λ_ _ _=>rfl,(λ s t b h=>by cases h),(λ_ _ _ _ _ _ _ h=>by cases h)⟩;have dm:=hC.fi f vs AH.emp _ o' Ip m.w.heap.size (safe B S m false) m.w ⟨λ_ _=>none,AH.emp,m.w⟩ (xs.toList.map a.eval) rfl Zk (by rw[<-iv];simp [hl]) il;intro K Q hK;unfold Oper.wp;rw[X4 k9 (hC.mo f _ _ _ Ip _ _),eo];refine Calls.mono dm λ e w' ⟨u,m',ga,hw,k7,js,Ih,u7⟩ => ?_
 subst ga hw;have fx:Below m.w.heap.size m.w m'.w:=js.below;rw[<-k7]at o4;obtain ⟨hz,ke⟩:=js.e6 s0 t0 b0 o4;obtain ⟨ad,cap,rfl,ht,bu,lk,ha,hb⟩:=R6 u7;obtain ⟨gj,dh⟩:=hb b0 o4;subst gj;have hold : ∀ s t g,live m s t->m.ν s t=some g->g<m.w.heap.size:=λ s t g gx hg=>by
  obtain ⟨_,arr,e,hh⟩:=hm.ge gx hg;exact (Array.getElem?_eq_some_iff.1 hh).1
 have xa : ∀ s' t' g,live ⟨j5 m s (m'.ν s0 t0),m.own.put s ((m.own s).new ⟨b0.a8,b0.es⟩),m'.w⟩ s' t'->j5 m s (m'.ν s0 t0) s' t'=some g->g<m.w.heap.size\/m'.ν s0 t0=some g:=λ s' t' g gx hg=>by
  obtain ⟨b',k8⟩:=gx;rw[F4]at k8;by_cases j7:s'=s/\t'=m.own.g8 s
  ·simp only[j5,if_pos j7]at hg
   exact Or.inr hg
  ·rw[if_neg j7]at k8
   simp only[j5,if_neg j7]at hg;exact Or.inl (hold s' t' g ⟨b',k8⟩ hg)
 have hR : ∀ b,b<m'.w.heap.size->safe m.w.heap.size (safe B S m false) m' false b->safe B S ⟨j5 m s (m'.ν s0 t0),m.own.put s ((m.own s).new ⟨b0.a8,b0.es⟩),m'.w⟩ false b:=λ b hbs tf=>by
  rcases tf with ⟨h1,h2⟩|⟨h1,h2⟩|⟨h1,_⟩
  ·rcases h1 with h1|⟨h1,h3⟩|⟨h1,_⟩
   ·exact .inl h1
   ·refine .inr (.inl ⟨h1,λ s' t' gx hg => ?_⟩)
    obtain ⟨b',k8⟩:=Option.isSome_iff_exists.1 gx;have q7:=k8;rw[F4]at q7;by_cases j7:s'=s/\t'=m.own.g8 s
    ·simp only[j5,if_pos j7]at hg
     rw[hg]at ke;have:=ke.1
     omega
    ·rw[if_neg j7]at q7
     simp only[j5,if_neg j7]at hg;exact h3 s' t' (by rw[q7];rfl) hg
   ·cases h1
  ·refine .inr (.inl ⟨Nat.le_trans hm.size h1,λ s' t' gx hg => ?_⟩)
   rcases xa s' t' b (Option.isSome_iff_exists.1 gx) hg with h3|h3
   ·omega
   ·exact h2 s0 t0 (by rw[o4];rfl) h3
  ·cases h1
 obtain ⟨xb,ef⟩:=wB hm fx s ⟨b0.a8,b0.es⟩ (m'.ν s0 t0) hz (by
  cases hν:m'.ν s0 t0 with
  | none=>rw[hν]at ke;exact ke
  | some g =>
   rw[hν]at ke hR;obtain ⟨h1,arr,e,h2,h3⟩:=ke;refine ⟨h1,arr,e,h2,λ i cs hi j c hj => ?_⟩;obtain ⟨u,hu,y7⟩:=h3 i cs hi j c hj;refine ⟨u,hu,.rd ?_⟩;have gu:=NY (WE j6 i cs hi) j c hj;have jt:Rd m'.w (safe m.w.heap.size (safe B S m false) m') c u:=by
    cases y7 with
    | rd h=>exact h
    | _=>unfold A6 at gu;exact gu.elim
   exact jt.clean hR gu)
 refine hK _ ⟨j5 m s (m'.ν s0 t0),m.own.put s ((m.own s).new ⟨b0.a8,b0.es⟩),m'.w⟩ rfl xb ef (.ca (.one (.row s (m.own.g8 s) b0.a8 0 b0.es.length ad cap (by show m.own.g8 s<AH.g8 (m.own.put s _) s;rw[J7,if_pos rfl];omega) bu lk ha λ b1 wh => ?_)));have Af:(m.own.put s ((m.own s).new ⟨b0.a8,b0.es⟩)).get s (m.own.g8 s)=some b1:=wh;rw[F4,if_pos ⟨rfl,rfl⟩]at Af;obtain rfl:=Option.some.inj Af;refine ⟨rfl,?_⟩;rcases dh with h0|⟨g,arr,e,hg,jc,hh,hle⟩
 ·exact .inl h0
 ·exact .inr ⟨g,arr,e,by simp [j5,hg],jc,hh,hle⟩
theorem hH {p:Bool} {f g:Nat} {cs:List AV} {v:Value} (h:CV B S m (.fn p f g cs) v) (hp:p=false\/cs=[]) : ∃ vs:List Value,v = .func (.func g) #[] vs.toArray/\CL B S m cs vs:=by
 cases h with
 | ca h=>cases h with
  | one h=>cases h with
   | rd h=>cases h
  | fn p f g cs vs hp h=>exact ⟨vs,rfl,h⟩
  | po f g cs vs m8 h =>
   rcases hp with hp|hp
   ·cases hp
   ·exact absurd hp m8
theorem yF {f g:Nat} {cs:List AV} {v:Value} (h:CV B S m (.fn true f g cs) v) (m8:cs≠[]) : ∃ vs:List Value,v = .func (.func g) #[.agg vs.toArray] #[]/\CL B S m cs vs:=by
 cases h with
 | ca h=>cases h with
  | one h=>cases h with
   | rd h=>cases h
  | fn p f g cs vs hp h=>exact absurd (hp rfl) m8
  | po f g cs vs m8 h=>exact ⟨vs,rfl,h⟩
theorem pR {f:Nat} {x:Operand} {xs:Array Operand} {ts:Array TypeId} {vs:Array Value} (k9:o.op = .call ⟨.value x,xs,ts⟩) (hx:a.eval x = .func (.func f) #[] vs) {w:World} (h:(callFunc f (xs.map a.eval++vs)).run P w = .ok (.enter f (xs.map a.eval++vs)) w):(execOp a.eval o).run P w = .ok (.enter f (xs.map a.eval++vs)) w:=by
 simp [execOp,k9,resolve,Deferred.ofValue,hx,invoke];exact h
theorem zP {C:Cl} (hC:GS P num C) (hm:BR B S w0 m) (hs:CX B S m ρ a.eval) {x':AP} {o3:List AP} (h:BB P num o.op (.o0 x' o3)=true) {f:Nat} {cs:List AV} (hf:ρ x' = .fn false f (num f) cs) {r:AV} {l8:AH} (hr:C.fi f (o3.map ρ++cs) m.own=some (r,l8)):CY B S w0 P o a m (.cr r l8):=by
 obtain ⟨x,xs,ts,k9,dz,he⟩:=aX h;obtain ⟨hl,hx⟩:=QL hs he;obtain ⟨vs,hv,j6⟩:=hH (hf ▸ hs x x' dz) (.inl rfl);have eo:(xs.map a.eval++vs.toArray)=(xs.toList.map a.eval++vs).toArray:=by cases xs;simp
 have dm:=hC.fi f (o3.map ρ++cs) m.own r l8 hr B S w0 m (xs.toList.map a.eval++vs) rfl hm (by simp [hl,j6.1]) (λ j c v hc hv=>by
  by_cases hj:j<o3.length
  ·rw[List.getElem?_append_left (by simpa using hj),List.getElem?_map]at hc
   rw[List.getElem?_append_left (by simpa [hl] using hj),List.getElem?_map]at hv;have Ir:j<xs.toList.length:=by rw[hl];exact hj
   rw[zE hj]at hc;rw[zE Ir]at hv;simp only[Option.map_some,Option.some.injEq]at hc hv;subst hc hv;exact hx j _ _ (zE Ir) (zE hj)
  ·rw[List.getElem?_append_right (by simpa using hj),List.length_map]at hc
   rw[List.getElem?_append_right (by simpa [hl] using hj),List.length_map,hl]at hv;exact .ca (.one (j6.2 _ c v hc hv)))
 intro K Q hK;unfold Oper.wp;rw[pR k9 hv (hC.mo f _ _ _ hr _ _),eo];refine Calls.mono dm λ e w' ⟨u,m',ga,hw,k7,js,ef,u7⟩ => ?_
 subst ga hw;exact hK u m' k7 js ef u7
theorem zL {C:Cl} (hC:GS P num C) (hm:BR B S w0 m) (hs:CX B S m ρ a.eval) {x':AP} {o3:List AP} (h:BB P num o.op (.o0 x' o3)=true) {f:Nat} (hf:ρ x' = .fn true f (num f) []) {vs:List AV} {r:AV} (hv:(o3.map ρ).mapM (C0 m.own true)=some vs) (hr:C.pure f vs=some r):CY B S w0 P o a m (.val r):=by
 obtain ⟨x,xs,ts,k9,dz,he⟩:=aX h;obtain ⟨us,hu,j6⟩:=hH (hf ▸ hs x x' dz) (.inr rfl);have hu0:us=[]:=List.eq_nil_of_length_eq_zero (by rw[<-j6.1];rfl);subst hu0;refine iO hC hm hs he (λ w h => ?_) hv hr;have:=pR (P:=P) (w:=w) k9 hu (by simpa using h)
 simpa using this
theorem Sg {f:Nat} {x:Operand} {xs:Array Operand} {ts:Array TypeId} {u:Value} (k9:o.op = .call ⟨.value x,xs,ts⟩) (hx:a.eval x = .func (.func f) #[u] #[]) {w:World} (h:(callFunc f (#[u]++xs.map a.eval)).run P w = .ok (.enter f (#[u]++xs.map a.eval)) w):(execOp a.eval o).run P w = .ok (.enter f (#[u]++xs.map a.eval)) w:=by
 simp [execOp,k9,resolve,Deferred.ofValue,hx,invoke];exact h
theorem zK {C:Cl} (hC:GS P num C) (hm:BR B S w0 m) (hs:CX B S m ρ a.eval) {x':AP} {o3:List AP} (h:BB P num o.op (.o0 x' o3)=true) {f:Nat} {c:AV} {cs:List AV} (hf:ρ x' = .fn true f (num f) (c::cs)) {vs:List AV} {r:AV} (hv:(AV.agg (c::cs)::o3.map ρ).mapM (C0 m.own true)=some vs) (hr:C.pure f vs=some r):CY B S w0 P o a m (.val r):=by
 obtain ⟨x,xs,ts,k9,dz,he⟩:=aX h;obtain ⟨us,hu,j6⟩:=yF (hf ▸ hs x x' dz) (by simp);obtain ⟨hl,hx⟩:=QL hs he;have eo:(#[Value.agg us.toArray]++xs.map a.eval)=(Value.agg us.toArray::xs.toList.map a.eval).toArray:=by cases xs;simp
 refine iP hC hm (us:=Value.agg us.toArray::xs.toList.map a.eval) (as:=AV.agg (c::cs)::o3.map ρ) (by simp [hl]) (λ j v c' h1 h2 => ?_) (λ w h=>by
  rw[<-eo]at h ⊢;exact Sg k9 hu h) hv hr
 cases j with
 | zero =>
  simp only[List.getElem?_cons_zero,Option.some.injEq]at h1 h2;subst h1 h2;exact .ca (.agg _ _ j6)
 | succ j =>
  rw[List.getElem?_cons_succ,List.getElem?_map]at h1 h2;cases ix:xs.toList[j]? with
  | none=>simp [ix]at h1
  | some x =>
   cases lv:o3[j]? with
   | none=>simp [lv]at h2
   | some y =>
    simp only[ix,lv,Option.map_some,Option.some.injEq]at h1 h2;subst h1 h2;exact hx j x y ix lv
theorem Rd.to1 {w:World} {R R':Bool->Nat->Prop} (hR : ∀ l b,b<w.heap.size->R l b -> ∀ l',R' l' b) {c:AV} {v:Value} (h:Rd w R c v) (hq:GC c=true):Rd w R' (S1 c) v:=by
 cases h with
 | int k n=>exact .int k n
 | bool b=>exact .bool b
 | str s=>simp [GC]at hq
 | jn=>simp [GC]at hq
 | emp=>simp [GC]at hq
 | gn l a cap=>exact .gn false a cap
 | sl l es b o a8 cap u m8 hp h1 aw hz j6 hr =>
  obtain ⟨e,c,he,fy⟩:=UA m8 hp hz;have hb:b<w.heap.size:=QB (j6 0 e he 0 c fy);exact .sl false es b o a8 cap u m8 hp (hR l b hb h1 false) aw hz j6 λ i e he j c hj=>(hr i e he j c hj).mono (λ l b hb h=>hR l b hb h l) (λ_ _ _ _=>rfl)
theorem Rd.ua {w:World} {R R':Bool->Nat->Prop} (hR : ∀ b,b<w.heap.size->R false b->R' true b) {c:AV} {v:Value} (h:Rd w R c v) (hc:A6 c) (hf:S8 c):Rd w R' (UK c) v:=by
 cases h with
 | int k n=>exact .int k n
 | bool b=>exact .bool b
 | str s=>exact hf.elim
 | jn=>exact hf.elim
 | emp=>exact hf.elim
 | gn l a cap=>exact .gn true a cap
 | sl l es b o a8 cap u m8 hp h1 aw hz j6 hr =>
  unfold A6 at hc;obtain ⟨rfl,hc⟩:=hc;obtain ⟨e,c,he,fy⟩:=UA m8 hp hz;have hb:b<w.heap.size:=QB (j6 0 e he 0 c fy);refine .sl true es b o a8 cap u m8 hp (hR b hb h1) aw hz j6 λ i e he j c hj => ?_
  have Fq:=hf e (zM he) c (zM hj);have xg:=hr i e he j c hj;generalize u i j=vv at xg ⊢;cases xg<;>first|exact .int _ _|exact .bool _|(simp [oJ]at Fq)
theorem bE : ∀ l:List AV,KN l=l.map HA
 | []=>by simp [KN]
 | c::r=>by rw[KN,bE r];rfl
theorem nE : ∀ l:List (List AV),UI l=l.map λ e=>e.map HA
 | []=>by simp [UI]
 | c::r=>by rw[UI,nE r,bE];rfl
theorem Rd.ub {w:World} {R R':Bool->Nat->Prop} (hR : ∀ b,b<w.heap.size->R false b->R' true b) {c:AV} {v:Value} (h:Rd w R c v):A6 c->Rd w R' (HA c) v:=by
 induction h with
 | int k n=>intro _;exact .int k n
 | bool b=>intro _;exact .bool b
 | str s=>intro _;exact .str s
 | jn=>intro _;exact .jn
 | emp b a cap h=>intro _;exact .emp b a cap h
 | gn l a cap=>intro _;exact .gn true a cap
 | sl l es b o a8 cap u m8 hp h1 aw hz j6 hr ih =>
  intro hc;unfold A6 at hc;obtain ⟨rfl,hc⟩:=hc;obtain ⟨e,c,he,fy⟩:=UA m8 hp hz;have hb:b<w.heap.size:=QB (j6 0 e he 0 c fy);have ri : ∀ (i:Nat) (e':List AV),(es.map λ e:List AV=>e.map HA)[i]? = some e' -> ∃ e,es[i]? = some e/\e'=e.map HA:=λ i e' h=>by
   rw[List.getElem?_map]at h;cases hi:es[i]? with
   | none=>simp [hi]at h
   | some e=>exact ⟨e,rfl,by simpa [hi] using h.symm⟩
  have Ae : ∀ (e:List AV) (j:Nat) (c':AV),(e.map HA)[j]? = some c' -> ∃ c,e[j]? = some c/\c'=HA c:=λ e j c' h=>by
   rw[List.getElem?_map]at h;cases hi:e[j]? with
   | none=>simp [hi]at h
   | some c=>exact ⟨c,rfl,by simpa [hi] using h.symm⟩
  have key:=Rd.sl (w:=w) (R:=R') true (es.map λ e:List AV=>e.map HA) b o a8 cap u (by simpa using m8) hp (hR b hb h1) (by simpa using aw)
   (λ e' ga=>by
    obtain ⟨e,he,rfl⟩:=List.mem_map.1 ga;rw[List.length_map];exact hz e he)
   (λ i e' hi j c' hj=>by
    obtain ⟨e,he,rfl⟩:=ri i e' hi;obtain ⟨c,yi,rfl⟩:=Ae e j c' hj;exact j6 i e he j c yi)
   (λ i e' hi j c' hj=>by
    obtain ⟨e,he,rfl⟩:=ri i e' hi;obtain ⟨c,yi,rfl⟩:=Ae e j c' hj;exact ih i e he j c yi (NY (WE hc i e he) j c yi))
  rw[List.length_map]at key;rw[HA,nE];exact key
theorem zN {C:Cl} (hC:GS P num C) (hm:BR B S w0 m) (hs:CX B S m ρ a.eval) {f:Nat} {o3:List AP} (h:BB P num o.op (.l9 f o3)=true) (hq:(o3.map ρ).all dq=true) {r:AV} (hr:C.pure f ((o3.map ρ).map rq)=some r) (Fa:JR r\/RM r):CY B S w0 P o a m (.val (KO r)):=by
 obtain ⟨xs,ts,k9,he⟩:=aW (Rx h);obtain ⟨hl,hx⟩:=QL hs he;have eo:(xs.map a.eval)=(xs.toList.map a.eval).toArray:=by cases xs;simp
 have hR : ∀ l b,b<m.w.heap.size->safe B S m l b -> ∀ l',safe m.w.heap.size (safe B S m true) ⟨λ_ _=>none,AH.emp,m.w⟩ l' b:=λ l b hb h l' => .inl ⟨cU h,hb⟩
 have hcell : ∀ (c:AV) (v:Value),CC B S m c v->GC c=true->Rd m.w (safe m.w.heap.size (safe B S m true) ⟨λ_ _=>none,AH.emp,m.w⟩) (S1 c) v:=λ c v hc hd=>by
  cases hc with
  | rd hr=>exact hr.to1 hR hd
  | nil=>exact .gn false none 0
  | row=>simp [GC]at hd
  | ptr=>simp [GC]at hd
  | s8=>simp [GC]at hd
 have il : ∀ (j:Nat) (c:AV) (v:Value),((o3.map ρ).map rq)[j]? = some c->(xs.toList.map a.eval)[j]? = some v->CA m.w.heap.size (safe B S m true) ⟨λ_ _=>none,AH.emp,m.w⟩ c v:=by
  intro j c v hc pe;rw[List.getElem?_map,List.getElem?_map]at hc;rw[List.getElem?_map]at pe;cases ix:xs.toList[j]? with
  | none=>simp [ix]at pe
  | some x =>
   cases lv:o3[j]? with
   | none=>simp [lv]at hc
   | some y =>
    simp [ix]at pe;simp [lv]at hc;subst pe hc;have u7:=hx j x y ix lv;have hd:dq (ρ y)=true:=List.all_eq_true.1 hq _ (List.mem_map_of_mem (zM lv));generalize ρ y=cy at u7 hd ⊢;generalize a.eval x=vx at u7 ⊢;cases u7 with
    | any=>simp [dq,GC]at hd
    | j4=>simp [dq,GC]at hd
    | ca nz =>
     cases nz with
     | one yh =>
      have je:GC cy=true/\rq cy=S1 cy:=by
       cases yh with
       | rd hr=>cases hr<;>exact ⟨hd,rfl⟩
       | _=>exact ⟨hd,rfl⟩
      rw[je.2];exact .one (.rd (hcell _ _ yh je.1))
     | agg cs vs j6 =>
      refine .agg (cs.map S1) vs ⟨by simpa using j6.1,λ k c' v' w4 lu => ?_⟩;rw[List.getElem?_map]at w4;cases mu:cs[k]? with
      | none=>simp [mu]at w4
      | some c0 =>
       simp [mu]at w4;subst w4;exact .rd (hcell c0 v' (j6.2 k c0 v' mu lu) (List.all_eq_true.1 hd _ (zM mu)))
     | fn=>simp [dq,GC]at hd
     | po=>simp [dq,GC]at hd
 have dm:=hC.pure f _ r hr (safe B S m true) m.w (xs.toList.map a.eval) (by simp [hl]) il;intro K Q hK;unfold Oper.wp;rw[X4 k9 (hC.pn f _ r hr _ _),eo];refine Calls.mono dm λ e w' ⟨u,ga,fx,u7,j6⟩ => ?_
 subst ga;obtain ⟨js,ef⟩:=grow hm fx;refine hK u ⟨m.ν,m.own,w'⟩ rfl js ef ?_;have fw : ∀ b,b<w'.heap.size->safe m.w.heap.size (safe B S m true) ⟨λ_ _=>none,AH.emp,w'⟩ false b->safe B S ⟨m.ν,m.own,w'⟩ true b:=λ b hb tf=>by
  rcases tf with ⟨h1,h2⟩|⟨h1,_⟩|⟨h1,_⟩
  ·exact ef.vi true b h2 h1
  ·refine .inr (.inl ⟨Nat.le_trans hm.size h1,λ s t gx hg => ?_⟩)
   obtain ⟨b',k8⟩:=Option.isSome_iff_exists.1 gx;obtain ⟨_,arr,e,hh⟩:=hm.ge ⟨b',k8⟩ hg;have:=(Array.getElem?_eq_some_iff.1 hh).1
   omega
  ·cases h1
 by_cases eg:JR r
 ·rw[bF eg]
  rcases ZH u7 j6 with wk|⟨cs,vs,rfl,_⟩
  ·rcases wk with jt|⟨cs,vs,rfl,rfl,iv,hh⟩
   ·have e1:tt r=UK r/\S8 r:=by cases jt<;>exact ⟨rfl,eg⟩
    rw[show B7.valOf (.val (tt r)) m.own=tt r from rfl,e1.1];exact .ca (.one (.rd (jt.ua fw j6 e1.2)))
   ·unfold A6 at j6
    refine .ca (.agg (cs.map UK) vs ⟨by simpa using iv,λ k c' v' w4 lu => ?_⟩);rw[List.getElem?_map]at w4;cases mu:cs[k]? with
    | none=>simp [mu]at w4
    | some c0 =>
     simp [mu]at w4;subst w4;exact .rd ((hh k c0 v' mu lu).ua fw (NY j6 k c0 mu) (eg c0 (zM mu)))
  ·exact eg.elim
 ·rw[nF eg]
  have hd:=Fa.resolve_left eg;rcases ZH u7 j6 with wk|⟨cs,vs,rfl,_⟩
  ·rcases wk with jt|⟨cs,vs,rfl,rfl,iv,hh⟩
   ·have e1:N4 r=HA r:=by cases jt<;>rfl
    rw[show B7.valOf (.val (N4 r)) m.own=N4 r from rfl,e1];exact .ca (.one (.rd (jt.ub fw j6)))
   ·unfold A6 at j6
    rw[show B7.valOf (.val (N4 (.agg cs))) m.own = .agg (KN cs) from rfl,bE];refine .ca (.agg (cs.map HA) vs ⟨by simpa using iv,λ k c' v' w4 lu => ?_⟩);rw[List.getElem?_map]at w4;cases mu:cs[k]? with
    | none=>simp [mu]at w4
    | some c0 =>
     simp [mu]at w4;subst w4;exact .rd ((hh k c0 v' mu lu).ub fw (NY j6 k c0 mu))
  ·exact hd.elim
end
end Go.e9
namespace Go.e9
open Go.RowKit
section
variable {B:Nat} {S:Nat->Prop} {w0:World} {m:M}
variable {P:Program} {num:Nat->Nat} {o:Oper} {a:Act} {ρ:AP->AV} {C:Cl} {c5:List Nat}
theorem Md (hm:BR B S w0 m) (hs:CX B S m ρ a.eval) {mx:Bool} {o3:List AP} (h:BB P num o.op (.mm mx o3)=true) {v r:AV} {l:List AV} (hx:o3.map ρ=v::l) (hv:JX mx v l=some r):CY B S w0 P o a m (.val r):=by
 by_cases hi : ∃ k n,v = .int k n
 ·exact Mc hm hs h hx hv hi
 ·cases l with
  | cons u q =>
   simp only[JX]at hv;exfalso;cases v<;>first|(exact hi ⟨_,_,rfl⟩)|(simp [OW]at hv)
  | nil =>
   simp only[JX,Option.some.injEq]at hv;subst hv;obtain ⟨xs,ts,k9,he⟩:=mO h;cases o3 with
   | nil=>simp at hx
   | cons y yr =>
    simp only[List.map_cons,List.cons.injEq,List.map_eq_nil_iff]at hx;obtain ⟨rfl,rfl⟩:=hx;obtain ⟨xl⟩:=xs;cases xl with
    | nil=>simp [D8]at he
    | cons x xr =>
     simp only[D8,Bool.and_eq_true]at he;cases xr with
     | cons=>simp [D8]at he
     | nil =>
      refine EI hm (u:=a.eval x) ?_ (hs x y he.1);cases mx<;>simp [execOp,k9,resolve,invoke,builtin,Builtin.min_,Builtin.max_]
theorem lR (o:AH) (l:List Nat) (s t:Nat) (b:DZ) (h:(o.m7 l).get s t=some b):o.get s t=some b:=by
 induction l with
 | nil=>exact h
 | cons x r ih =>
  unfold AH.get AH.m7 at h;by_cases hs:s=x
  ·simp [hs]at h
  ·simp only[if_neg hs]at h
   exact ih h
theorem Qr {o:AH} {l:List Nat} {s t i j n:Nat} {cs:List AV} (h:(o.m7 l).nc s t i j n=some cs):o.nc s t i j n=some cs:=by
 unfold AH.nc at *;cases hg:(o.m7 l).get s t with
 | none=>simp [hg]at h
 | some b =>
  rw[lR o l s t b hg];simpa [hg] using h
theorem Ld {o:AH} {l:List Nat} {v:AV} {es:List (List AV)} (h:EJ (o.m7 l) v=some es):EJ o v=some es:=by
 cases v with
 | bh v=>cases v<;>exact h
 | row s t z off len =>
  simp only[EJ]at h ⊢;cases hg:(o.m7 l).get s t with
  | none=>simp [hg]at h
  | some b =>
   rw[lR o l s t b hg];simpa [hg] using h
 | _=>exact h
theorem SI {α β:Type} {f g:α->Option β} (Ii : ∀ x y,f x=some y->g x=some y) : ∀ {l:List α} {l':List β},l.mapM f=some l'->l.mapM g=some l'
 | [],l',h=>by simpa using h
 | x::r,l',h=>by
  simp only[List.mapM_cons,Option.bind_eq_bind,Option.pure_def]at h ⊢;cases hx:f x with
  | none=>simp [hx]at h
  | some y =>
   cases hr:r.mapM f with
   | none=>simp [hx,hr]at h
   | some r' =>
    simp [hx,hr]at h;simp [Ii x y hx,SI Ii hr,h]
theorem dF (o:AH) (l:List Nat) (b:Bool) : ∀ (d:Nat) (c c':AV),snap (o.m7 l) b d c=some c'->snap o b d c=some c'
 | 0,c,c',h=>by cases c<;>simp_all [snap]
 | d+1,c,c',h=>by
  cases c<;>first|(simp_all [snap];done)|skip
  rename_i s t z off len;simp only[snap]at h ⊢;cases he:EJ (o.m7 l) (.row s t z off len) with
  | none=>simp [he]at h
  | some es =>
   simp only[he]at h;rw[Ld he];simp only[Option.map_eq_some_iff]at h ⊢;obtain ⟨es',h1,h2⟩:=h;exact ⟨es',SI (λ x y hx=>SI (dF o l b d) hx) h1,h2⟩
theorem qK (o:AH) (l:List Nat) (b:Bool) (c c':AV) (h:C0 (o.m7 l) b c=some c'):C0 o b c=some c':=by
 cases c<;>first|exact dF o l b 6 _ _ h|skip
 simp only[C0,Option.map_eq_some_iff]at h ⊢;obtain ⟨cs,h1,h2⟩:=h;exact ⟨cs,SI (dF o l b 6) h1,h2⟩
theorem Vw (o:AH) (l:List Nat) (b:Bool) (c c':AV) (h:OA (o.m7 l) b c=some c'):OA o b c=some c':=by
 rcases Classical.em (c = .nil) with rfl|hc
 ·exact h
 ·have e : ∀ o:AH,OA o b c=C0 o b c:=λ o=>by cases c<;>first|rfl|exact (hc rfl).elim
  rw[e]at h ⊢;exact qK o l b _ _ h
theorem Rc {o:AH} {l:List Nat} {b:Bool} {xs vs:List AV} (h:xs.mapM (OA (o.m7 l) b)=some vs):xs.mapM (OA o b)=some vs:=SI (Vw o l b) h
theorem Ra {o:AH} {l:List Nat} {b:Bool} {xs vs:List AV} (h:xs.mapM (C0 (o.m7 l) b)=some vs):xs.mapM (C0 o b)=some vs:=SI (qK o l b) h
theorem Wi {own l8:AH} {s t i j:Nat} {vs:List AV} (h:own.jo s t i j vs=some l8):own.put s (l8 s)=l8:=by
 unfold AH.jo at h;cases hg:own.get s t with
 | none=>simp [hg]at h
 | some b =>
  simp only[hg]at h;cases he:b.es[i]? with
  | none=>simp [he]at h
  | some cs =>
   simp only[he]at h;split at h
   ·obtain rfl:=Option.some.inj h
    rw[AH.g9]
   ·cases h
theorem Lb (hC:GS P num C) (hm:BR B S w0 m) (hs:CX B S m ρ a.eval) {xq:DT} (j8:BB P num o.op xq=true) {E:B7} (h:e7 C c5 ρ m.own xq=some E):CY B S w0 P o a m E:=by
 cases xq with
 | a9 x=>simp only[e7,Option.some.injEq]at h;subst h;exact Me hm hs j8
 | ah s z=>simp only[e7,Option.some.injEq]at h;subst h;exact Ml hm j8
 | pick c x y =>
  simp only[e7]at h;split at h
  ·rename_i hc;simp only[Option.some.injEq]at h;subst h;exact iN hm hs j8 hc
  ·rename_i hc;simp only[Option.some.injEq]at h;subst h;exact iN hm hs j8 hc
  ·cases h
 | bin f x y =>
  simp only[e7]at h;split at h
  ·rename_i k n k' n' hx hy
   simp only[Option.map_eq_some_iff]at h;obtain ⟨v,hv,rfl⟩:=h;exact zF hm hs j8 hx hy hv
  ·cases h
 | beq ne x y =>
  simp only[e7]at h;split at h
  ·rename_i b b' hx hy
   simp only[Option.some.injEq]at h;subst h;exact zD hm hs j8 hx hy
  ·cases h
 | un f x =>
  simp only[e7,Option.map_eq_some_iff]at h;obtain ⟨v,hv,rfl⟩:=h;exact Mj hm hs j8 hv
 | conv k x =>
  simp only[e7]at h;split at h
  ·rename_i k' n hx
   simp only[Option.some.injEq]at h;subst h;exact zQ hm hs j8 hx
  ·cases h
 | box s x =>
  simp only[e7]at h;split at h
  ·rename_i cs iq
   simp only[Option.some.injEq]at h;subst h;exact zG hm hs j8 iq
  ·cases h
 | alloc s z=>simp only[e7,Option.some.injEq]at h;subst h;exact zC hm j8
 | build z ps =>
  simp only[e7,Option.map_eq_some_iff]at h;obtain ⟨cs,iq,rfl⟩:=h;exact zI hm hs j8 iq
 | c4 s a8 ps =>
  simp only[e7]at h;split at h
  ·rename_i es gb
   split at h
   ·rename_i hz
    simp only[Option.some.injEq]at h;subst h;exact zH hm hs j8 gb hz
   ·cases h
  ·cases h
 | a5 x off =>
  simp only[e7]at h;split at h
  ·rename_i s t i j hx
   simp only[Option.some.injEq]at h;subst h;exact zW hm hs j8 hx
  ·rename_i cs hx
   simp only[Option.some.injEq]at h;subst h;exact zV hm hs j8 hx
  ·cases h
 | lg x off n agg =>
  simp only[e7]at h;split at h
  ·rename_i cs hx
   split at h
   ·rename_i ds hp
    simp only[Option.map_eq_some_iff]at h;obtain ⟨v,hv,rfl⟩:=h;exact zX hm hs j8 hx hp hv
   ·cases h
  ·cases h
 | a7 arr a8 x i =>
  simp only[e7]at h;split at h
  ·rename_i k n hi
   split at h
   ·rename_i len s t i' j hx
    split at h
    ·rename_i hn
     simp only[Option.some.injEq]at h;subst h;exact zY hm hs j8 hi hx hn.1 hn.2
    ·cases h
   ·rename_i len cs hx
    split at h
    ·rename_i hn
     simp only[Option.some.injEq]at h;subst h;exact zZ hm hs j8 hi hx hn.1 hn.2
    ·cases h
   ·rename_i s t z off len hx
    split at h
    ·rename_i hn
     simp only[Option.some.injEq]at h;subst h;exact Lv hm hs j8 hi hx hn.1 hn.2.1 hn.2.2
    ·cases h
   ·rename_i l es hx
    split at h
    ·rename_i h0
     split at h
     ·rename_i cs iq
      split at h
      ·rename_i hz
       simp only[Option.some.injEq]at h;subst h;exact Lw hm hs j8 hi hx h0 iq hz
      ·cases h
     ·cases h
    ·cases h
   ·cases h
  ·cases h
 | ld agg n x =>
  simp only[e7]at h;split at h
  ·rename_i s t i j hx
   split at h
   ·rename_i cs iq
    simp only[Option.map_eq_some_iff]at h;obtain ⟨v,hv,rfl⟩:=h;exact Ly hm hs j8 hx (Qr iq) hv
   ·cases h
  ·rename_i cs hx
   split at h
   ·rename_i ds hp
    simp only[Option.map_eq_some_iff]at h;obtain ⟨v,hv,rfl⟩:=h;exact Lx hm hs j8 hx hp hv
   ·cases h
  ·cases h
 | st n x v =>
  simp only[e7]at h;split at h
  ·rename_i s t i j vs hx fe
   split at h
   ·rename_i hn
    simp only[Option.map_eq_some_iff]at h;obtain ⟨l8,ho,rfl⟩:=h;exact iR hm hs j8 hx fe hn ho
   ·cases h
  ·cases h
 | mk s a8 bytes zero l c =>
  simp only[e7]at h;split at h
  ·rename_i kl a' kc b' hl hc
   split at h
   ·rename_i hn
    simp only[Option.some.injEq]at h;subst h;exact Ma hm hs j8 hl hc hn.1 hn.2.1 hn.2.2.1 hn.2.2.2.1 hn.2.2.2.2
   ·cases h
  ·cases h
 | ew a8 x lo hi =>
  simp only[e7]at h;have Hp : ∀ (d:Nat) (y:Option AP) (q:Nat),(match y with|none=>some d|some o=>match ρ o with | .int _ n=>if 0<=n/\n<=d then some n.toNat else none|_=>none)=some q -> ∃ n:Int,G6 ρ d y=some n/\0<=n/\n<=d/\q=n.toNat:=λ d y q hq=>by
   cases y with
   | none=>simp only[Option.some.injEq]at hq;subst hq;exact ⟨d,rfl,by omega,by omega,by simp⟩
   | some y =>
    simp only at hq;cases hy:ρ y with
    | int k n =>
     simp only[hy]at hq;split at hq
     ·rename_i hn
      simp only[Option.some.injEq]at hq;subst hq;exact ⟨n,by simp [G6,hy],hn.1,hn.2,rfl⟩
     ·cases hq
    | _=>simp [hy]at hq
  have zp : ∀ (y:Option AP) (q:Nat),(match y with|none=>some 0|some o=>match ρ o with | .int _ n=>if 0<=n then some n.toNat else none|_=>none)=some q -> ∃ n:Int,G6 ρ 0 y=some n/\0<=n/\q=n.toNat:=λ y q hq=>by
   cases y with
   | none=>simp only[Option.some.injEq]at hq;subst hq;exact ⟨0,rfl,by omega,by simp⟩
   | some y =>
    simp only at hq;cases hy:ρ y with
    | int k n =>
     simp only[hy]at hq;split at hq
     ·rename_i hn
      simp only[Option.some.injEq]at hq;subst hq;exact ⟨n,by simp [G6,hy],hn,rfl⟩
     ·cases hq
    | _=>simp [hy]at hq
  have zq : ∀ (y:Option AP) (q:Nat),(match y with|none=>some 0|some o=>match ρ o with | .int _ n=>if n=0 then some 0 else none|_=>none)=some q->G6 ρ 0 y=some 0:=λ y q hq=>by
   cases y with
   | none=>rfl
   | some y =>
    simp only at hq;cases hy:ρ y with
    | int k n =>
     simp only[hy]at hq;split at hq
     ·rename_i hn
      subst hn;simp [G6,hy]
     ·cases hq
    | _=>simp [hy]at hq
  split at h
  ·rename_i l es hx
   split at h
   ·rename_i q1 q2 h1 h2
    split at h
    ·rename_i hq
     simp only[Option.some.injEq]at h;subst h;obtain ⟨n1,b1,c1,rfl⟩:=zp _ _ h1;obtain ⟨n2,b2,c2,c3,rfl⟩:=Hp _ _ _ h2;exact Mi hm hs j8 hx b1 b2 c1 (by omega) c3 hq.2
    ·cases h
   ·cases h
  ·rename_i hx
   split at h
   ·rename_i q1 q2 h1 h2
    simp only[Option.some.injEq]at h;subst h;exact Mg hm hs j8 hx (zq _ _ h1) (zq _ _ h2)
   ·cases h
  ·rename_i s t z off len hx
   split at h
   ·rename_i q1 q2 h1 h2
    split at h
    ·rename_i hq
     simp only[Option.some.injEq]at h;subst h;obtain ⟨n1,b1,c1,rfl⟩:=zp _ _ h1;obtain ⟨n2,b2,c2,c3,rfl⟩:=Hp _ _ _ h2;exact Mh hm hs j8 hx b1 b2 c1 (by omega) c3 hq.2
    ·cases h
   ·cases h
  ·cases h
 | ext x i =>
  simp only[e7]at h;split at h
  ·rename_i vs hx
   simp only[Option.map_eq_some_iff]at h;obtain ⟨v,hv,rfl⟩:=h;exact zU hm hs j8 hx hv
  ·cases h
 | len x =>
  simp only[e7]at h;split at h
  ·rename_i n hn
   simp only[Option.some.injEq]at h;subst h;exact Lz hm hs j8 hn
  ·cases h
 | mm mx xs =>
  simp only[e7]at h;split at h
  ·cases h
  ·rename_i v r hx
   simp only[Option.map_eq_some_iff]at h;obtain ⟨q,hq,rfl⟩:=h;exact Md hm hs j8 hx hq
 | app s a8 bytes x y =>
  simp only[e7]at h;split at h
  ·rename_i ys tj
   split at h
   ·rename_i hz
    split at h
    ·rename_i s' t z len hx
     split at h
     ·rename_i b hb
      split at h
      ·rename_i hn
       obtain ⟨n1,rfl,n3,n4,n5⟩:=hn;simp only[Option.some.injEq]at h;subst h;exact iK hm hs j8 tj hz hx hb n1 n3 n4 n5
      ·cases h
     ·cases h
    ·rename_i hx
     split at h
     ·rename_i hn
      simp only[Option.some.injEq]at h;subst h;exact iJ hm hs j8 tj hz hx hn.1 hn.2
     ·cases h
    ·cases h
   ·cases h
  ·cases h
 | call f xs =>
  simp only[e7]at h;split at h
  ·rename_i vs fe
   simp only[Option.map_eq_some_iff]at h;obtain ⟨r,hr,rfl⟩:=h;exact zJ hC hm hs j8 (Ra fe) hr
  ·cases h
 | e8 f xs =>
  simp only[e7,Option.map_eq_some_iff]at h;obtain ⟨r,hr,rfl⟩:=h;exact iL hC hm hs j8 hr
 | oi ne x =>
  simp only[e7]at h;split at h
  ·rename_i hx
   simp only[Option.some.injEq]at h;subst h;exact WP hm hs j8 (b:=true) λ v hv=>by rw[hx]at hv;exact ⟨none,0,0,R5 hv,rfl⟩
  ·rename_i b hx
   simp only[Option.some.injEq]at h;subst h;exact WP hm hs j8 (b:=b) λ v hv=>by
    rw[hx]at hv;obtain ⟨ad,c,h1,h2⟩:=gZ hv;exact ⟨ad,0,c,h1,h2⟩
  ·rename_i hx
   simp only[Option.some.injEq]at h;subst h;exact WP hm hs j8 (b:=false) λ v hv=>by rw[hx]at hv;exact yI hv
  ·rename_i hx
   simp only[Option.some.injEq]at h;subst h;exact WP hm hs j8 (b:=false) λ v hv=>by rw[hx]at hv;exact yH hv
  ·cases h
 | bad =>
  have h:(none:Option B7)=some E:=h;cases h
 | bg s f xs =>
  simp only[e7,Option.map_eq_some_iff]at h;obtain ⟨p,hp,rfl⟩:=h;exact iL hC hm hs (Rz j8) (WA.1 hp m.own rfl)
 | eu tb x =>
  simp only[e7]at h;split at h
  ·rename_i k n hx
   split at h
   ·rename_i h0
    split at h
    ·rename_i v hv
     simp only[Option.some.injEq]at h;subst h;exact Mf hm hs j8 hx h0 hv
    ·cases h
   ·cases h
  ·cases h
 | mh p f xs =>
  simp only[e7,Option.map_eq_some_iff]at h;obtain ⟨cs,iq,rfl⟩:=h;rw[hC.num];exact Mb hm hs j8 iq
 | l9 f xs =>
  simp only[e7]at h;split at h
  ·rename_i hq
   split at h
   ·rename_i r hr
    split at h
    ·rename_i eg
     simp only[Option.some.injEq]at h;subst h;exact zN hC hm hs j8 hq hr eg
    ·cases h
   ·cases h
  ·cases h
 | m6 s f xs =>
  simp only[e7]at h;split at h
  ·rename_i vs fe
   simp only[Option.map_eq_some_iff]at h;obtain ⟨⟨z,es⟩,hr,rfl⟩:=h;exact zO hC hm hs j8 (Rc fe) hr
  ·cases h
 | v9 s a8 bytes x y =>
  simp only[e7]at h;split at h
  ·rename_i l ys s' t z len hy hx
   split at h
   ·rename_i b hb
    split at h
    ·rename_i hn
     obtain ⟨rfl,hz,n1,rfl,n3,n4,n5⟩:=hn;simp only[Option.some.injEq]at h;subst h;have:=iK hm hs (mL j8) (ys:=ys) (by rw[hy];rfl) hz hx hb n1 n3 n4 n5
     intro K Q hK;exact this K Q λ u m' h1 h2 h3 h4=>hK u m' h1 h2 h3 h4
    ·cases h
   ·cases h
  ·rename_i l ys hy hx
   split at h
   ·rename_i hn
    simp only[Option.some.injEq]at h;subst h;have:=iJ hm hs (mL j8) (ys:=ys) (by rw[hy];rfl) hn.1 hx hn.2.1 hn.2.2
    intro K Q hK;exact this K Q λ u m' h1 h2 h3 h4=>hK u m' h1 h2 h3 h4
   ·cases h
  ·cases h
 | kz s n x v =>
  simp only[e7]at h;split at h
  ·rename_i s' t i j vs hx fe
   split at h
   ·rename_i hn
    obtain ⟨rfl,hn⟩:=hn;simp only[Option.map_eq_some_iff]at h;obtain ⟨l8,ho,rfl⟩:=h;have:=iR hm hs (Qm j8) hx fe hn ho
    intro K Q hK;refine this K Q λ u m' h1 h2 h3 h4=>hK u m' ?_ h2 h3 h4
    rw[h1];exact (Wi ho).symm
   ·cases h
  ·cases h
 | o0 x xs =>
  simp only[e7]at h;split at h
  ·rename_i p f g cs hx
   split at h
   ·rename_i hg
    rw[hC.num]at hg;subst hg;split at h
    ·split at h
     ·rename_i vs fe
      simp only[Option.map_eq_some_iff]at h;obtain ⟨r,hr,rfl⟩:=h;exact zL hC hm hs j8 hx fe hr
     ·cases h
    ·simp only[Option.map_eq_some_iff]at h
     obtain ⟨r,hr,rfl⟩:=h;exact zP hC hm hs j8 hx hr
    ·split at h
     ·rename_i vs fe
      simp only[Option.map_eq_some_iff]at h;obtain ⟨r,hr,rfl⟩:=h;exact zK hC hm hs j8 hx fe hr
     ·cases h
   ·cases h
  ·cases h
end
end Go.e9

namespace Go.e9
open Go.RowKit
def EF (T:Nat->AV):AP->AV
 | .t n=>T n
 | .c v=>v
def IR (T:Nat->AV) (d:Option Nat) (v:AV):Nat->AV:=λ j=>if d=some j then v else T j
def KD (T:Nat->AV):Option (Nat × Bool)->Option Bool
 | none=>some true
 | some (g,want)=>match T g with
  | .bool b=>some (b == want)
  | .j4 []=>some false
  | _=>none
theorem jP (st:St):st.ev=EF (g6 st.tm):=by funext x;cases x<;>rfl
theorem Oe (st:St) (g:Option (Nat × Bool)):FH st g=KD (g6 st.tm) g:=rfl
theorem iX (st:St) (d:Option Nat) (v:AV):g6 (st.dst d v).tm=IR (g6 st.tm) d v:=by
 cases d with
 | none=>funext j;simp [St.dst,IR]
 | some d =>
  funext j
  simp only[St.dst,IR,VJ];by_cases h:j=d
  ·simp [h]
  ·simp [h,Ne.symm h]
theorem wG (st:St) (d:Option Nat) (E:B7):g6 (st.app d E).tm=IR (g6 st.tm) d (E.valOf st.own):=by
 cases E<;>simp only[St.app,B7.valOf]<;>exact iX st d _
theorem iY (st:St) (d:Option Nat) (v:AV):(st.dst d v).own=st.own:=by cases d<;>rfl
theorem wF (st:St) (d:Option Nat) (E:B7):(st.app d E).own=E.w7 st.own:=by
 cases E with
 | val v=>simp only[St.app,B7.w7];exact iY st d v
 | _=>rfl
section
variable {B:Nat} {S:Nat->Prop} {w0:World} {m0:M} {N:Nat}
variable {P:Program} {num:Nat->Nat} {C:Cl} {Q:Exit->Act->World->Prop}
structure FL (B:Nat) (S:Nat->Prop) (w0:World) (m0:M) (N:Nat) (T:Nat->AV) (m:M) (a:Act):Prop where
 mem:BR B S w0 m
 ext:DI B S m0 m
 tm : ∀ i,CV B S m (T i) (a.tmps.getD i undef)
 size:a.tmps.size=N
 defers:a.defers=[]
theorem FL.put {T:Nat->AV} {m m':M} {a:Act} (h:FL B S w0 m0 N T m a) (d:Option Nat) (hd : ∀ k,d=some k->k<N) {v:AV} {u:Value} (hm:BR B S w0 m') (he:DI B S m m') (hc:CV B S m' v u):FL B S w0 m0 N (IR T d v) m' (a.put d u):=by
 refine ⟨hm,h.ext.trans he,λ i => ?_,?_,?_⟩
 ·cases d with
  | none=>simpa [IR,Act.put] using he.cv (h.tm i)
  | some k =>
   have hk:k<a.tmps.size:=by rw[h.size];exact hd k rfl
   by_cases Ao:i=k
   ·subst Ao
    simp only[IR,if_true,Act.put];simpa [Array.getD,hk] using hc
   ·have m8 : ¬ (some k=some i):=λ e=>Ao (by simpa using e.symm)
    simp only[IR,if_neg m8,Act.put];have:(a.tmps.setIfInBounds k u).getD i undef=a.tmps.getD i undef:=by
     simp [Array.getElem?_setIfInBounds_ne (Ne.symm Ao)]
    rw[this];exact he.cv (h.tm i)
 ·cases d<;>simp [Act.put,h.size]
 ·cases d<;>simpa [Act.put] using h.defers
theorem FL.says {T:Nat->AV} {m:M} {a:Act} (h:FL B S w0 m0 N T m a):CX B S m (EF T) a.eval:=Sn (λ_=>rfl) (λ_=>rfl) h.tm
theorem Uz {T:Nat->AV} {m:M} {a:Act} (h:FL B S w0 m0 N T m a) {ops:Array Oper} {o:Oper} {g':Option (Nat × Bool)} (hg:UQ ops o.guard g'=true) {g:Bool} (oa:KD T g'=some g):Region.wanted o (yielded ops a.tmps)=g:=by
 unfold Region.wanted;cases Fs:o.guard with
 | none =>
  cases g' with
  | none=>simp [KD]at oa;simp [oa]
  | some _=>simp [UQ,Fs]at hg
 | some jw =>
  obtain ⟨j,want⟩:=jw;cases g' with
  | none=>simp [UQ,Fs]at hg
  | some tw =>
   obtain ⟨t,Kl⟩:=tw;simp only[UQ,Fs,Bool.and_eq_true,beq_iff_eq]at hg;obtain ⟨rfl,hg⟩:=hg;split at hg
   ·rename_i oj Cr
    have Ew:oj.dst=some t:=by simpa using hg
    have u7:=h.tm t;simp only[KD]at oa;unfold yielded;simp only[Cr,Option.bind_some,Ew];split at oa
    ·rename_i b hb
     rw[hb]at u7;have hv:=QF u7;have o4:a.tmps[t]? = some (.bool b):=by
      cases ht:a.tmps[t]? with
      | none=>simp [ht,undef]at hv
      | some x=>simp [ht]at hv;rw[hv]
     simp only[o4];simp at oa;rw[<-oa];cases b<;>cases want<;>rfl
    ·rename_i hb
     rw[hb]at u7;obtain ⟨vs,hv,hl,_⟩:=ZI u7;have:vs=[]:=List.eq_nil_of_length_eq_zero (by simpa using hl.symm)
     subst this;simp at oa;subst oa;cases ht:a.tmps[t]? with
     | none=>rfl
     | some x =>
      simp [ht]at hv;subst hv;rfl
    ·cases oa
   ·cases hg
theorem rS (hC:GS P num C) {ops:Array Oper} {i:Nat} {o:Oper} {ai:AI} (hi:ops[i]? = some o) (j8:XQ P num N ops o ai=true) {T:Nat->AV} {m:M} {a:Act} (hf:FL B S w0 m0 N T m a) {g:Bool} (hg:KD T ai.guard=some g) {E:B7}
  (hE:g=true->e7 C ai.c5 (EF T) m.own ai.op=some E) {K:Act->World->Prop} (hK : ∀ m' a',m'.own=(if g then E.w7 m.own else m.own)->FL B S w0 m0 N (IR T ai.dst (if g then E.valOf m.own else .j4 [])) m' a'->K a' m'.w):wpOp P ops Q i K a m.w:=by
 simp only[XQ,Bool.and_eq_true,beq_iff_eq]at j8;obtain ⟨⟨⟨h1,h2⟩,h3⟩,h4⟩:=j8;have hd : ∀ k,o.dst=some k->k<N:=λ k hk=>by
  rw[h1]at hk;rw[hk]at h2;simpa using h2
 unfold wpOp;simp only[hi,Uz hf h3 hg];cases g with
 | true =>
  simp only[if_true];refine .inl (Lb hC hf.mem hf.says h4 (hE rfl) K Q λ u m' k7 js ef u7 => ?_);refine hK m' _ (by simpa using k7) ?_;rw[<-h1];exact hf.put o.dst hd js ef u7
 | false =>
  simp only[Bool.false_eq_true,if_false];refine hK m _ (by simp) ?_;rw[<-h1];exact hf.put o.dst hd hf.mem (DI.refl m) nR
theorem qQ {o:AI} {st j9:St} (h:C1 C o st=some j9) : ∃ g E,KD (g6 st.tm) o.guard=some g/\(g=true->e7 C o.c5 (EF (g6 st.tm)) st.own o.op=some E)/\g6 j9.tm=IR (g6 st.tm) o.dst (if g then E.valOf st.own else .j4 [])/\j9.own=(if g then E.w7 st.own else st.own):=by
 unfold C1 at h;rw[Oe]at h;cases hg:KD (g6 st.tm) o.guard with
 | none=>simp [hg]at h
 | some g =>
  cases g with
  | true =>
   simp only[hg,Option.map_eq_some_iff]at h;obtain ⟨E,hE,rfl⟩:=h;rw[jP]at hE;exact ⟨true,E,rfl,λ_=>hE,wG st o.dst E,wF st o.dst E⟩
  | false =>
   simp only[hg,Option.some.injEq]at h;subst h;exact ⟨false,.val .any,rfl,λ h=>(by cases h),iX st o.dst _,iY st o.dst _⟩
theorem UR {ops:Array Oper} : ∀ {os:List Oper} {l:List AI},OX P num N ops os l=true->os.length=l.length /\ ∀ (i:Nat) (o:Oper) (x:AI),os[i]? = some o->l[i]? = some x->XQ P num N ops o x=true
 | [],[],_=>⟨rfl,λ i o x h=>by simp at h⟩
 | o::r,x::l,h=>by
  simp only[OX,Bool.and_eq_true]at h;obtain ⟨h1,h2⟩:=UR h.2;refine ⟨by simp [h1],λ i o' x' ho hx => ?_⟩;cases i with
  | zero=>simp at ho hx;subst ho hx;exact h.1
  | succ i=>exact h2 i o' x' (by simpa using ho) (by simpa using hx)
 | [],_::_,h=>by simp [OX]at h
 | _::_,[],h=>by simp [OX]at h
theorem rT (hC:GS P num C) {ops:Array Oper} {l:List AI} (j8:OX P num N ops ops.toList l=true) : ∀ (n k:Nat) (st j9:St) (m:M) (a:Act),n+k=ops.size->DE C (l.drop k) st=some j9->m.own=st.own->FL B S w0 m0 N (g6 st.tm) m a ->
  (∀ m' a',m'.own=j9.own->FL B S w0 m0 N (g6 j9.tm) m' a'->Q .normal a' m'.w)->wpOps P ops Q (List.range' k n) a m.w
 | 0,k,st,j9,m,a,hk,hs,k7,hf,hQ=>by
  have hl:=(UR j8).1;simp at hl;rw[List.drop_eq_nil_of_le (by omega)]at hs;simp only[DE,Option.some.injEq]at hs;subst hs;simpa [wpOps] using hQ m a k7 hf
 | n+1,k,st,j9,m,a,hk,hs,k7,hf,hQ=>by
  obtain ⟨hl,hg⟩:=UR j8;simp at hl;have wz:k<l.length:=by omega
  have Is:k<ops.size:=by omega
  rw[List.drop_eq_getElem_cons wz]at hs;simp only[DE]at hs;cases j7:C1 C l[k] st with
  | none=>simp [j7]at hs
  | some A8 =>
   simp only[j7]at hs;obtain ⟨g,E,h1,h2,h3,h4⟩:=qQ j7;rw[List.range'_succ,wpOps_cons];have Zr:ops[k]? = some ops[k]:=Array.getElem?_eq_getElem Is;refine rS hC Zr (hg k ops[k] l[k] (by simp [Is]) (zE wz)) hf h1 (λ df=>by rw[k7];exact h2 df) λ m' a' iw kf => ?_
   refine rT hC j8 n (k+1) A8 j9 m' a' (by omega) hs ?_ ?_ hQ
   ·rw[iw,k7,h4]
   ·rw[k7]at kf
    rw[h3];exact kf
end
end Go.e9

namespace Go.e9
open Go.RowKit
section
variable {T T':Nat->AV} {C:Cl} {c5:List Nat} {own:AH}
theorem DN {x:AP} (h : ∀ t∈C5 x,T t=T' t):EF T x=EF T' x:=by
 cases x with
 | t n=>exact h n (by simp [C5])
 | c v=>rfl
theorem QY {xs:List AP} (h : ∀ t∈xs.flatMap C5,T t=T' t):xs.map (EF T)=xs.map (EF T') :=
 List.map_congr_left λ x hx=>DN λ t ht=>h t (List.mem_flatMap.2 ⟨x,hx,ht⟩)
theorem oU {x:Option AP} (h : ∀ t∈cB x,T t=T' t) {y:AP} (hy:x=some y):EF T y=EF T' y:=by
 subst hy;exact DN h
theorem Kw {op:DT} (h : ∀ t∈HG op,T t=T' t):e7 C c5 (EF T) own op=e7 C c5 (EF T') own op:=by
 cases op with
 | build z ps =>
  simp only[e7];congr 2;refine List.map_congr_left λ p hp => ?_
  rw[DN (x:=p.2.2) λ t ht=>h t (by simp only[HG];exact List.mem_flatMap.2 ⟨p,hp,ht⟩)]
 | c4 s a8 ps =>
  have hm:ps.mapM (λ x=>cellsOf (EF T x))=ps.mapM (λ x=>cellsOf (EF T' x)):=by
   have e : ∀ l:List AP,(∀ x∈l,EF T x=EF T' x)->l.mapM (λ x=>cellsOf (EF T x))=l.mapM (λ x=>cellsOf (EF T' x)):=by
    intro l;induction l with
    | nil=>intro _;rfl
    | cons x r ih=>intro hl;simp only[List.mapM_cons];rw[hl x (by simp),ih λ y hy=>hl y (by simp [hy])]
   exact e ps λ x hx=>DN λ t ht=>h t (by simp only[HG];exact List.mem_flatMap.2 ⟨x,hx,ht⟩)
  simp only[e7,hm]
 | mm mx xs=>simp only[e7];rw[QY (xs:=xs) h]
 | call f xs=>simp only[e7];rw[QY (xs:=xs) h]
 | e8 f xs=>simp only[e7];rw[QY (xs:=xs) h]
 | oi ne x=>simp only[e7];rw[DN (x:=x) h]
 | bad=>rfl
 | eu tb x=>simp only[e7];rw[DN (x:=x) h]
 | mh p f xs =>
  have e : ∀ l:List AP,(∀ x∈l,EF T x=EF T' x)->l.mapM (λ x=>GP (EF T x))=l.mapM (λ x=>GP (EF T' x)):=by
   intro l;induction l with
   | nil=>intro _;rfl
   | cons x r ih=>intro hl;simp only[List.mapM_cons];rw[hl x (by simp),ih λ y hy=>hl y (by simp [hy])]
  simp only[e7];rw[e xs λ x hx=>DN λ t ht=>h t (by simp only[HG];exact List.mem_flatMap.2 ⟨x,hx,ht⟩)]
 | l9 f xs=>simp only[e7];rw[QY (xs:=xs) h]
 | m6 s f xs=>simp only[e7];rw[QY (xs:=xs) h]
 | bg s f xs=>simp only[e7];rw[QY (xs:=xs) h]
 | kz s n x v =>
  simp only[HG,List.mem_append]at h;simp only[e7];rw[DN (x:=x) λ t ht=>h t (.inl ht),DN (x:=v) λ t ht=>h t (.inr ht)]
 | o0 x xs =>
  simp only[HG,List.mem_append]at h;simp only[e7];rw[DN (x:=x) λ t ht=>h t (.inl ht),QY (xs:=xs) λ t ht=>h t (.inr ht)]
 | ew a8 x lo hi =>
  simp only[HG,List.mem_append]at h;have hx:EF T x=EF T' x:=DN λ t ht=>h t (.inl (.inl ht))
  have ln : ∀ y,lo=some y->EF T y=EF T' y:=λ y hy=>oU (λ t ht=>h t (.inl (.inr ht))) hy
  have Co : ∀ y,hi=some y->EF T y=EF T' y:=λ y hy=>oU (λ t ht=>h t (.inr ht)) hy
  simp only[e7,hx];cases lo with
  | none=>cases hi with
   | none=>rfl
   | some y=>simp only[Co y rfl]
  | some z=>cases hi with
   | none=>simp only[ln z rfl]
   | some y=>simp only[ln z rfl,Co y rfl]
 | ah=>rfl
 | alloc=>rfl
 | a9 x=>simp only[e7];rw[DN (x:=x) h]
 | un f x=>simp only[e7];rw[DN (x:=x) h]
 | conv k x=>simp only[e7];rw[DN (x:=x) h]
 | box s x=>simp only[e7];rw[DN (x:=x) h]
 | a5 x off=>simp only[e7];rw[DN (x:=x) h]
 | lg x off n agg=>simp only[e7];rw[DN (x:=x) h]
 | ld agg n x=>simp only[e7];rw[DN (x:=x) h]
 | ext x i=>simp only[e7];rw[DN (x:=x) h]
 | len x=>simp only[e7];rw[DN (x:=x) h]
 | pick c x y =>
  simp only[HG,List.mem_append]at h;simp only[e7];rw[DN (x:=c) λ t ht=>h t (.inl (.inl ht)),DN (x:=x) λ t ht=>h t (.inl (.inr ht)),DN (x:=y) λ t ht=>h t (.inr ht)]
 | bin f x y =>
  simp only[HG,List.mem_append]at h;simp only[e7];rw[DN (x:=x) λ t ht=>h t (.inl ht),DN (x:=y) λ t ht=>h t (.inr ht)]
 | beq ne x y =>
  simp only[HG,List.mem_append]at h;simp only[e7];rw[DN (x:=x) λ t ht=>h t (.inl ht),DN (x:=y) λ t ht=>h t (.inr ht)]
 | a7 arr a8 x i =>
  simp only[HG,List.mem_append]at h;simp only[e7];rw[DN (x:=x) λ t ht=>h t (.inl ht),DN (x:=i) λ t ht=>h t (.inr ht)]
 | st n x v =>
  simp only[HG,List.mem_append]at h;simp only[e7];rw[DN (x:=x) λ t ht=>h t (.inl ht),DN (x:=v) λ t ht=>h t (.inr ht)]
 | mk s a8 bytes z l c =>
  simp only[HG,List.mem_append]at h;simp only[e7];rw[DN (x:=l) λ t ht=>h t (.inl ht),DN (x:=c) λ t ht=>h t (.inr ht)]
 | app s a8 bytes x y =>
  simp only[HG,List.mem_append]at h;simp only[e7];rw[DN (x:=x) λ t ht=>h t (.inl ht),DN (x:=y) λ t ht=>h t (.inr ht)]
 | v9 s a8 bytes x y =>
  simp only[HG,List.mem_append]at h;simp only[e7];rw[DN (x:=x) λ t ht=>h t (.inl ht),DN (x:=y) λ t ht=>h t (.inr ht)]
theorem mC (o:AH) (l:List Nat) (s:Nat):o.m7 l s=if s∈l then ⟨0,λ_=>none⟩ else o s:=by
 induction l with
 | nil=>simp [AH.m7]
 | cons x r ih =>
  simp only[AH.m7,List.mem_cons];by_cases h:s=x
  ·simp [h]
  ·rw[if_neg h,ih]
   simp [h]
theorem Rh {o o':AH} {l:List Nat} (h : ∀ s,s ∉ l->o s=o' s):o.m7 l=o'.m7 l:=by
 funext s
 rw[mC,mC];split
 ·rfl
 ·rename_i hs;exact h s hs
end
section
variable {ops:Array Oper}
def inner (acc:Array Nat) (o:Oper):Nat:=o.after.foldl (λ s e=>if Region.binds .any e then s ||| 2^e.on ||| acc.getD e.on 0 else s) 0
theorem Ro (acc:Array Nat) (o:Oper) (j:Nat) (h:(inner acc o).testBit j=true) : ∃ e∈o.after,Region.binds .any e=true/\(e.on=j\/(acc.getD e.on 0).testBit j=true):=by
 unfold inner at h;rw[<-Array.foldl_toList]at h;have key : ∀ (l:List Edge) (s:Nat),(l.foldl (λ s e=>if Region.binds .any e then s ||| 2^e.on ||| acc.getD e.on 0 else s) s).testBit j=true->s.testBit j=true \/ ∃ e∈l,Region.binds .any e=true/\(e.on=j\/(acc.getD e.on 0).testBit j=true):=by
  intro l;induction l with
  | nil=>intro s hs;exact .inl hs
  | cons e r ih =>
   intro s hs;simp only[List.foldl_cons]at hs;rcases ih _ hs with h1|⟨e',ga,h2⟩
   ·by_cases hb:Region.binds .any e=true
    ·simp only[hb,if_true,Nat.testBit_or,Bool.or_eq_true,Nat.testBit_two_pow,decide_eq_true_eq]at h1
     rcases h1 with (h1|h1)|h1
     ·exact .inl h1
     ·exact .inr ⟨e,by simp,hb,.inl h1⟩
     ·exact .inr ⟨e,by simp,hb,.inr h1⟩
    ·simp only[hb,Bool.false_eq_true,if_false]at h1
     exact .inl h1
   ·exact .inr ⟨e',by simp [ga],h2⟩
 rcases key _ _ h with h|⟨e,he,h⟩
 ·simp at h
 ·exact ⟨e,by simpa using he,h⟩
theorem wI (i j:Nat) (h:((Region.before ops).getD i 0).testBit j=true) : ∃ o,ops[i]? = some o /\ ∃ e∈o.after,Region.binds .any e=true/\(e.on=j\/(e.on<i/\((Region.before ops).getD e.on 0).testBit j=true)):=by
 have key : ∀ (rest:List Oper) (done:List Oper) (acc:Array Nat),acc.size=done.length ->
   (∀ i j,(acc.getD i 0).testBit j=true -> ∃ o,done[i]? = some o /\ ∃ e∈o.after,Region.binds .any e=true/\(e.on=j\/(e.on<i/\(acc.getD e.on 0).testBit j=true))) ->
   ∀ i j,((rest.foldl (λ acc o=>acc.push (inner acc o)) acc).getD i 0).testBit j=true -> ∃ o,(done++rest)[i]? = some o /\ ∃ e∈o.after,Region.binds .any e=true/\(e.on=j\/(e.on<i/\((rest.foldl (λ acc o=>acc.push (inner acc o)) acc).getD e.on 0).testBit j=true)):=by
  intro rest;induction rest with
  | nil=>intro done acc hs hinv i j hj;simpa using hinv i j hj
  | cons o r ih =>
   intro done acc hs hinv i j hj;simp only[List.foldl_cons]at hj ⊢;have:=ih (done++[o]) (acc.push (inner acc o)) (by simp [hs]) (λ i j ui => ?_) i j hj
   ·simpa using this
   ·have o4 : ∀ k,k<acc.size->(acc.push (inner acc o)).getD k 0=acc.getD k 0:=λ k hk=>by
     simp [Array.getD,hk,Nat.lt_succ_of_lt hk,Array.getElem_push_lt hk]
    by_cases hi:i<acc.size
    ·rw[o4 i hi]at ui
     obtain ⟨o',td,e,he,hb,dh⟩:=hinv i j ui;refine ⟨o',by rw[List.getElem?_append_left (by omega)];exact td,e,he,hb,dh.imp id λ⟨h1,h2⟩=>⟨h1,by rw[o4 e.on (by omega)];exact h2⟩⟩
    ·have Ff:i=acc.size:=by
      rcases Nat.lt_or_ge i (acc.push (inner acc o)).size with h1|h1
      ·simp at h1;omega
      ·have:(acc.push (inner acc o)).getD i 0=0:=by simp [Array.getD];intro h2;simp at h1;omega
       rw[this]at ui;simp at ui
     subst Ff;have ji:(acc.push (inner acc o)).getD acc.size 0=inner acc o:=by simp [Array.getD]
     rw[ji]at ui;obtain ⟨e,he,hb,dh⟩:=Ro acc o j ui;refine ⟨o,by rw[hs];simp,e,he,hb,dh.imp id λ h2 => ?_⟩;have l7:e.on<acc.size:=by
      rcases Nat.lt_or_ge e.on acc.size with h3|h3
      ·exact h3
      ·have:acc.getD e.on 0=0:=by simp [Array.getD];omega
       rw[this]at h2;simp at h2
     exact ⟨l7,by rw[o4 e.on l7];exact h2⟩
 have hb:Region.before ops=ops.toList.foldl (λ acc o=>acc.push (inner acc o)) #[]:=by
  unfold Region.before;rw[<-Array.foldl_toList];rfl
 rw[hb]at h ⊢;have:=key ops.toList [] #[] rfl (λ i j ui=>by simp at ui) i j h
 simpa using this
def RN (ops:Array Oper) (X:Nat->Bool):Prop := ∀ j o,X j=true->ops[j]? = some o -> ∀ e∈o.after,Region.binds .any e=true->X e.on=true
theorem Hk {X:Nat->Bool} (hX:RN ops X) : ∀ (i:Nat),(∀ o,ops[i]? = some o -> ∀ e∈o.after,Region.binds .any e=true->X e.on=true) -> ∀ j,((Region.before ops).getD i 0).testBit j=true->X j=true:=by
 intro i;induction i using Nat.strongRecOn with
 | ind i ih =>
  intro hi j hj;obtain ⟨o,ho,e,he,hb,dh⟩:=wI i j hj;have hx:=hi o ho e he hb;rcases dh with h|⟨l7,h⟩
  ·rw[<-h];exact hx
  ·exact ih e.on l7 (λ o' td e' ga k8=>hX e.on o' hx td e' ga k8) j h
theorem Ue {X:Nat->Bool} (hX:RN ops X) {i j:Nat} (hi : ∀ o,ops[i]? = some o -> ∀ e∈o.after,Region.binds .any e=true->X e.on=true) (l7:j<i) (h:H2 (Region.before ops) i j=true):X j=true:=by
 unfold H2 at h;rw[Nat.max_eq_left (by omega),Nat.min_eq_right (by omega)]at h;exact Hk hX i hi j h
theorem oW {X:Nat->Bool} (hX:RN ops X) {i j:Nat} (hj:X j=true) (l7:i<j) (h:H2 (Region.before ops) i j=true):X i=true:=by
 unfold H2 at h;rw[Nat.max_eq_right (by omega),Nat.min_eq_left (by omega)]at h;exact Hk hX j (λ o ho e he hb=>hX j o hj ho e he hb) i h
end
section
variable {C:Cl}
abbrev D:=(Nat->AV) × AH
structure DU where
 d:Option Nat
 g:Bool
 E:B7
 v:AV
def DU.own (r:DU) (o:AH):AH:=if r.g then r.E.w7 o else o
def DU.act (r:DU) (x:D):D:=(IR x.1 r.d r.v,r.own x.2)
structure RO (C:Cl) (x:AI) (r:DU) (s s':St):Prop where
 d:r.d=x.dst
 g:KD (g6 s.tm) x.guard=some r.g
 E:r.g=true->e7 C x.c5 (EF (g6 s.tm)) s.own x.op=some r.E
 v:r.v=(if r.g then r.E.valOf s.own else .j4 [])
 act:(g6 s'.tm,s'.own)=r.act (g6 s.tm,s.own)
theorem trace : ∀ {l:List AI} {st j9:St},DE C l st=some j9 -> ∃ (σ:Nat->St) (rs:List DU),σ 0=st/\σ l.length=j9/\rs.length=l.length /\ ∀ (k:Nat) (x:AI) (r:DU),l[k]? = some x->rs[k]? = some r->RO C x r (σ k) (σ (k+1))
 | [],st,j9,h=>by
  simp only[DE,Option.some.injEq]at h;subst h;exact ⟨λ_=>st,[],rfl,rfl,rfl,λ k x r hx=>by simp at hx⟩
 | o::q,st,j9,h=>by
  simp only[DE]at h;cases hs:C1 C o st with
  | none=>simp [hs]at h
  | some A8 =>
   simp only[hs]at h;obtain ⟨σ,rs,h0,h1,hl,h2⟩:=trace h;obtain ⟨g,E,e1,e2,e3,e4⟩:=qQ hs;refine ⟨λ k=>match k with|0=>st|k+1=>σ k,⟨o.dst,g,E,if g then E.valOf st.own else .j4 []⟩::rs,rfl,h1,by simp [hl],λ k x r hx hr => ?_⟩;cases k with
   | zero =>
    simp at hx hr;subst hx hr;refine ⟨rfl,e1,e2,rfl,?_⟩;show (g6 (σ 0).tm,(σ 0).own)=_;rw[h0,e3,e4];rfl
   | succ k=>exact h2 k x r (by simpa using hx) (by simpa using hr)
def DM (X:Nat->Bool):List DU->Nat->D->D
 | [],_,x=>x
 | r::rs,k,x=>DM X rs (k+1) (if X k then r.act x else x)
theorem aK (X:Nat->Bool) : ∀ (l l':List DU) (k:Nat) (x:D),DM X (l++l') k x=DM X l' (k+l.length) (DM X l k x)
 | [],l',k,x=>by simp [DM]
 | r::rs,l',k,x=>by
  simp only[List.cons_append,DM,List.length_cons];rw[aK X rs l' (k+1)];congr 1;omega
theorem lK {X Y:Nat->Bool} {t:Nat} : ∀ (l:List DU) (k:Nat) (x y:D),x.1 t=y.1 t->(∀ i r,l[i]? = some r->r.d=some t->X (k+i)=Y (k+i))->(DM X l k x).1 t=(DM Y l k y).1 t
 | [],k,x,y,h,_=>h
 | r::rs,k,x,y,h,pt=>by
  simp only[DM];refine lK rs (k+1) _ _ ?_ λ i r' hr hd=>by
   have:=pt (i+1) r' (by simpa using hr) hd
   rw[show k+1+i=k+(i+1) by omega];exact this
  by_cases hd:r.d=some t
  ·have hx:X k=Y k:=by simpa using pt 0 r rfl hd
   rw[hx];cases Y k
   ·simpa using h
   ·simp [DU.act,IR,hd]
  ·have e1 : ∀ z:D,(r.act z).1 t=z.1 t:=λ z=>by simp [DU.act,IR,hd]
   cases X k<;>cases Y k<;>simp [e1,h]
theorem Uj (E:B7) (s:Nat) (o o':AH) (h:o s=o' s):E.w7 o s=E.w7 o' s:=by
 cases E with
 | val v=>exact h
 | new s' b v =>
  simp only[B7.w7,AH.put];by_cases hs:s=s'
  ·subst hs;simp [h]
  ·simp [hs,h]
 | tz s' b v =>
  simp only[B7.w7,AH.put];by_cases hs:s=s'
  ·subst hs;simp [h]
  ·simp [hs,h]
 | cr v o2=>rfl
 | nu s' x v =>
  simp only[B7.w7,AH.put];by_cases hs:s=s'
  ·simp [hs]
  ·simp [hs,h]
 | o9 s' x =>
  simp only[B7.w7,AH.put];by_cases hs:s=s'
  ·simp [hs]
  ·simp [hs,h]
theorem lJ {X Y:Nat->Bool} {s:Nat} : ∀ (l:List DU) (k:Nat) (x y:D),x.2 s=y.2 s->(∀ i r,l[i]? = some r->X (k+i)=Y (k+i) \/ ∀ o,r.own o s=o s)->(DM X l k x).2 s=(DM Y l k y).2 s
 | [],k,x,y,h,_=>h
 | r::rs,k,x,y,h,pt=>by
  simp only[DM];refine lJ rs (k+1) _ _ ?_ λ i r' hr=>by
   have:=pt (i+1) r' (by simpa using hr)
   rw[show k+1+i=k+(i+1) by omega];exact this
  rcases pt 0 r rfl with hx|hx
  ·simp only[Nat.add_zero]at hx
   rw[hx];cases Y k
   ·simpa using h
   ·simp only[if_true,DU.act,DU.own]
    cases r.g
    ·simpa using h
    ·simpa using Uj r.E s _ _ h
  ·have e1 : ∀ z:D,(r.act z).2 s=z.2 s:=λ z=>hx z.2
   cases X k<;>cases Y k<;>simp [e1,h]
theorem aL {X:Nat->Bool} (q:DU) : ∀ (l:List DU) (k:Nat) (x:D),(∀ i r,l[i]? = some r->X (k+i)=true -> ∀ z,r.act (q.act z)=q.act (r.act z))->DM X l k (q.act x)=q.act (DM X l k x)
 | [],k,x,_=>rfl
 | r::rs,k,x,h=>by
  simp only[DM];have ct : ∀ i r',rs[i]? = some r'->X (k+1+i)=true -> ∀ z,r'.act (q.act z)=q.act (r'.act z):=λ i r' hr hX=>h (i+1) r' (by simpa using hr) (by rw[show k+(i+1)=k+1+i by omega];exact hX)
  cases hk:X k
  ·simp only[Bool.false_eq_true,if_false]
   exact aL q rs (k+1) x ct
  ·simp only[if_true]
   rw[h 0 r rfl (by simpa using hk)];exact aL q rs (k+1) _ ct
theorem W5 {X Y:Nat->Bool} : ∀ (l:List DU) (k:Nat) (x:D),(∀ i,i<l.length->X (k+i)=Y (k+i))->DM X l k x=DM Y l k x
 | [],_,_,_=>rfl
 | r::rs,k,x,h=>by
  simp only[DM];rw[show X k=Y k by simpa using h 0 (by simp)];exact W5 rs (k+1) _ λ i hi=>by
   have:=h (i+1) (by simpa using hi)
   rw[show k+1+i=k+(i+1) by omega];exact this
theorem lI {X X':Nat->Bool} {l:List DU} {i:Nat} {q:DU} (hq:l[i]? = some q) (jr:X i=false) (rh : ∀ j,X' j=(decide (j=i)||X j)) (x:D) (Ah : ∀ j r,l[j]? = some r->i<j->X j=true -> ∀ z,r.act (q.act z)=q.act (r.act z)) :
  DM X' l 0 x=q.act (DM X l 0 x):=by
 have fg:i<l.length:=(zS hq).1;have Iv:l=l.take i++(q::l.drop (i+1)):=by
  have:l.drop i=q::l.drop (i+1):=by
   rw[List.drop_eq_getElem_cons fg];congr 1;have:=(zS hq).2
   exact this
  rw[<-this,List.take_append_drop]
 have fo:(l.take i).length=i:=by simp;omega
 rw[Iv,aK,aK,fo,Nat.zero_add];simp only[DM,jr,Bool.false_eq_true,if_false];rw[show X' i=true by rw[rh];simp];simp only[if_true];rw[W5 (X:=X') (Y:=X) (l.take i) 0 x (λ j hj=>by rw[rh];simp;omega)];rw[W5 (X:=X') (Y:=X) (l.drop (i+1)) (i+1) _ (λ j hj=>by rw[rh];simp;omega)];refine aL q _ _ _ λ j r hr Eb => ?_
 rw[List.getElem?_drop]at hr;exact Ah (i+1+j) r hr (by omega) Eb
end
end Go.e9

namespace Go.e9
open Go.RowKit
section
variable {C:Cl} {c5:List Nat} {ρ:AP->AV}
theorem Kz {op:DT} (o o':AH) (ht:GR op=false) (hr:U2 op=true->o.m7 c5=o'.m7 c5) (j7 : ∀ s,EL op=some s->o s=o' s):e7 C c5 ρ o op=e7 C c5 ρ o' op:=by
 cases op with
 | kz s n x v =>
  have h1:=j7 s rfl;have h2 : ∀ t i j vs,(o.jo s t i j vs).map (λ q=>B7.o9 s (q s))=(o'.jo s t i j vs).map (λ q=>B7.o9 s (q s)):=λ t i j vs=>by
   have hg:o.get s t=o'.get s t:=by unfold AH.get;rw[h1]
   unfold AH.jo;rw[hg];cases o'.get s t with
   | none=>rfl
   | some b =>
    simp only;cases b.es[i]? with
    | none=>rfl
    | some cs =>
     simp only;split
     ·simp only[Option.map_some,AH.g9,h1]
     ·rfl
  simp only[e7,h2]
 | v9 s a8 bytes x y =>
  have h1:=j7 s rfl;have hg : ∀ t,o.get s t=o'.get s t:=λ t=>by unfold AH.get;rw[h1]
  simp only[e7,hg,AH.g8,h1]
 | ld agg n x=>have:=hr rfl;simp only[e7,this]
 | call f xs=>have:=hr rfl;simp only[e7,this]
 | m6 s f xs=>have:=hr rfl;simp only[e7,this]
 | bg s f xs=>have h1:=j7 s rfl;simp only[e7,h1]
 | st=>simp [GR]at ht
 | app=>simp [GR]at ht
 | e8=>simp [GR]at ht
 | o0=>simp [GR]at ht
 | _=>rfl
theorem jE {op:DT} {o:AH} {E:B7} (h:e7 C c5 ρ o op=some E) {s:Nat} (hs:EL op=some s):(∃ b v,E = .new s b v\/E = .tz s b v) \/ ∃ x v,E = .o9 s x\/E = .nu s x v:=by
 cases op with
 | v9 s' a8 bytes x y =>
  simp only[EL,Option.some.injEq]at hs;subst hs;simp only[e7]at h;split at h
  ·split at h
   ·split at h
    ·simp only[Option.some.injEq]at h;exact .inr ⟨_,_,.inr h.symm⟩
    ·cases h
   ·cases h
  ·split at h
   ·simp only[Option.some.injEq]at h;exact .inr ⟨_,_,.inr h.symm⟩
   ·cases h
  ·cases h
 | kz s' n x v =>
  simp only[EL,Option.some.injEq]at hs;subst hs;simp only[e7]at h;split at h
  ·split at h
   ·simp only[Option.map_eq_some_iff]at h
    obtain ⟨q,_,rfl⟩:=h;exact .inr ⟨_,.any,.inl rfl⟩
   ·cases h
  ·cases h
 | m6 s' f xs =>
  simp only[EL,Option.some.injEq]at hs;subst hs;simp only[e7]at h;split at h
  ·simp only[Option.map_eq_some_iff]at h
   obtain ⟨r,_,rfl⟩:=h;exact .inl ⟨_,_,.inl rfl⟩
  ·cases h
 | bg s' f xs =>
  simp only[EL,Option.some.injEq]at hs;subst hs;simp only[e7,Option.map_eq_some_iff]at h;obtain ⟨p,_,rfl⟩:=h;exact .inr ⟨_,_,.inr rfl⟩
 | ah s' z =>
  simp only[EL,Option.some.injEq]at hs;subst hs;simp only[e7,Option.some.injEq]at h;exact .inl ⟨_,_,.inr h.symm⟩
 | box s' x =>
  simp only[EL,Option.some.injEq]at hs;subst hs;simp only[e7]at h;split at h
  ·simp only[Option.some.injEq]at h;exact .inl ⟨_,_,.inl h.symm⟩
  ·cases h
 | alloc s' z =>
  simp only[EL,Option.some.injEq]at hs;subst hs;simp only[e7,Option.some.injEq]at h;exact .inl ⟨_,_,.inl h.symm⟩
 | c4 s' a8 ps =>
  simp only[EL,Option.some.injEq]at hs;subst hs;simp only[e7]at h;split at h
  ·split at h
   ·simp only[Option.some.injEq]at h;exact .inl ⟨_,_,.inl h.symm⟩
   ·cases h
  ·cases h
 | mk s' a8 bytes z l c =>
  simp only[EL,Option.some.injEq]at hs;subst hs;simp only[e7]at h;split at h
  ·split at h
   ·simp only[Option.some.injEq]at h;exact .inl ⟨_,_,.inl h.symm⟩
   ·cases h
  ·cases h
 | _=>simp [EL]at hs
theorem bJ {α:Type} {x:Option α} {f:α->AV} {E:B7} (h:x.map (λ y=>B7.val (f y))=some E) : ∃ v,E = .val v:=by
 cases x with
 | none=>cases h
 | some y=>simp only[Option.map_some,Option.some.injEq]at h;exact ⟨_,h.symm⟩
theorem jF {op:DT} {o:AH} {E:B7} (h:e7 C c5 ρ o op=some E) (ht:GR op=false) (hs:EL op=none) : ∃ v,E = .val v:=by
 cases op<;>first|(simp [GR]at ht;done)|(simp [EL]at hs;done)|skip
 all_goals simp only[e7]at h
 all_goals
  first
   | (simp only[Option.some.injEq]at h;exact ⟨_,h.symm⟩)
   | exact bJ (f:=id) h
   | skip
 all_goals (repeat' split at h)
 all_goals
  first
   | (cases h;done)
   | (simp only[Option.some.injEq]at h;exact ⟨_,h.symm⟩)
   | exact bJ (f:=id) h
   | exact bJ (f:=AV.agg) h
   | (simp only[Option.map_eq_some_iff]at h;obtain ⟨cs,_,rfl⟩:=h;exact ⟨_,rfl⟩)
theorem Q2 {x:AI} {r:DU} {s s':St} (h:RO C x r s s') (ht:GR x.op=false) (hs:EL x.op=none) (o:AH):r.own o=o:=by
 unfold DU.own;cases hg:r.g with
 | false=>rfl
 | true =>
  obtain ⟨v,hv⟩:=jF (h.E hg) ht hs;simp [hv,B7.w7]
theorem cM {x:AI} {r:DU} {s s':St} (h:RO C x r s s') {q:Nat} (hs:EL x.op=some q):(∀ o,r.own o=o) \/ ∃ F:B8->B8,∀ o:AH,r.own o=o.put q (F (o q)):=by
 unfold DU.own;cases hg:r.g with
 | false=>exact .inl λ_=>rfl
 | true =>
  rcases jE (h.E hg) hs with ⟨b,v,hv|hv⟩|⟨x,v,hv|hv⟩
  ·exact .inr ⟨λ q=>q.new b,λ o=>by simp [hv,B7.w7]⟩
  ·exact .inr ⟨λ q=>q.new b,λ o=>by simp [hv,B7.w7]⟩
  ·exact .inr ⟨λ_=>x,λ o=>by simp [hv,B7.w7]⟩
  ·exact .inr ⟨λ_=>x,λ o=>by simp [hv,B7.w7]⟩
theorem pI {x:AI} {r:DU} {s s':St} (h:RO C x r s s') {q:Nat} (hs:EL x.op=some q) {p:Nat} (hp:p≠q) (o:AH):r.own o p=o p:=by
 rcases cM h hs with h1|⟨b,h1⟩
 ·rw[h1]
 ·rw[h1];simp [AH.put,hp]
theorem oV (b:Array Nat) (i j:Nat):H2 b i j=H2 b j i:=by unfold H2;rw[Nat.max_comm,Nat.min_comm]
theorem QI {ops:Array Oper} {l:List AI} (h:QH ops l=true) {i j:Nat} {x y:AI} (hx:l[i]? = some x) (hy:l[j]? = some y) (m8:i≠j) :
  (H2 (Region.before ops) i j=true\/((∀ t,y.dst=some t->t ∉ SH x)/\(GR x.op=false\/JW y.op=false)/\(U2 x.op=true -> ∀ s,EL y.op=some s->s∈x.c5))) /\
  (H2 (Region.before ops) i j=true \/ ∀ s s',EL x.op=some s->EL y.op=some s'->s≠s'):=by
 simp only[QH,Bool.and_eq_true]at h;have h1:=h.1.1;rw[List.all_eq_true]at h1;have hxm:(x,i)∈l.zipIdx:=List.mem_zipIdx_iff_getElem?.2 hx;have hym:(y,j)∈l.zipIdx:=List.mem_zipIdx_iff_getElem?.2 hy;have h2:=h1 (x,i) hxm;simp only at h2;rw[List.all_eq_true]at h2;have h3:=h2 (y,j) hym;simp only[Bool.and_eq_true,Bool.or_eq_true,beq_iff_eq,m8,false_or]at h3;obtain ⟨h4,h5⟩:=h3;refine ⟨?_,h5.imp id λ h5 s s' hs xh => ?_⟩
 ·unfold oZ at h4
  simp only[Bool.or_eq_true,beq_iff_eq,m8,false_or]at h4;refine h4.imp id λ h6 => ?_
  simp only[Bool.and_eq_true,Bool.or_eq_true,Bool.not_eq_true']at h6;obtain ⟨⟨h7,h8⟩,h9⟩:=h6;refine ⟨λ t ht => ?_,h8,λ hr s hs => ?_⟩
  ·rw[ht]at h7
   simpa using h7
  ·rw[hr,hs]at h9
   simpa using h9
 ·rw[hs,xh]at h5
  simpa using h5
structure VR (C:Cl) (ops:Array Oper) (l:List AI) (σ:Nat->St) (rs:List DU):Prop where
 ok:QH ops l=true
 len:rs.length=l.length
 fits : ∀ (k:Nat) (x:AI) (r:DU),l[k]? = some x->rs[k]? = some r->RO C x r (σ k) (σ (k+1))
variable {ops:Array Oper} {l:List AI} {σ:Nat->St} {rs:List DU}
theorem aM {X:Nat->Bool} : ∀ (l:List DU) (k:Nat) (x:D),(∀ i,i<l.length->X (k+i)=false)->DM X l k x=x
 | [],_,_,_=>rfl
 | r::q,k,x,h=>by
  simp only[DM];rw[show X k=false by simpa using h 0 (by simp)];exact aM q (k+1) _ λ i hi=>by
   have:=h (i+1) (by simpa using hi)
   rw[show k+1+i=k+(i+1) by omega];exact this
def d0 (σ:Nat->St):D:=(g6 (σ 0).tm,(σ 0).own)
theorem ZS (h:VR C ops l σ rs) : ∀ k,k<=l.length->DM (λ j=>decide (j<k)) rs 0 (d0 σ)=(g6 (σ k).tm,(σ k).own)
 | 0,_=>aM rs 0 _ λ i _=>by simp
 | k+1,hk=>by
  have wz:k<l.length:=by omega
  have Zf:k<rs.length:=by rw[h.len];exact wz
  have hr:rs[k]? = some rs[k]:=zE Zf;have hf:=h.fits k l[k] rs[k] (zE wz) hr;rw[lI (X:=λ j=>decide (j<k)) (X':=λ j=>decide (j<k+1)) hr (by simp) (λ j=>by
   by_cases h1:j=k
   ·simp [h1]
   ·simp [h1];omega) _ (λ j r' _ l7 hX=>by simp at hX;omega),ZS h k (by omega)]
  exact hf.act.symm
section
variable {X:Nat->Bool} {i:Nat} {x:AI} {r:DU}
theorem oX (hX:RN ops X) (jr:X i=false) (cw : ∀ o,ops[i]? = some o -> ∀ e∈o.after,Region.binds .any e=true->X e.on=true) {j:Nat} (m8:i≠j) (ho:H2 (Region.before ops) i j=true):X j=decide (j<i):=by
 rcases Nat.lt_or_gt_of_ne m8 with l7|oa
 ·have:X j=false:=by
   cases hj:X j with
   | false=>rfl
   | true=>have:=oW hX hj l7 ho;rw[jr]at this;cases this
  rw[this];simp;omega
 ·rw[Ue hX cw oa ho];simp;omega
theorem Mr (h:VR C ops l σ rs) (hx:l[i]? = some x) (hr:rs[i]? = some r) (hX:RN ops X) (jr:X i=false) (cw : ∀ o,ops[i]? = some o -> ∀ e∈o.after,Region.binds .any e=true->X e.on=true) :
  KD (DM X rs 0 (d0 σ)).1 x.guard=some r.g/\(r.g=true->e7 C x.c5 (EF (DM X rs 0 (d0 σ)).1) (DM X rs 0 (d0 σ)).2 x.op=some r.E) /\
  (if r.g then r.E.valOf (DM X rs 0 (d0 σ)).2 else .j4 [])=r.v /\
  ∀ X':Nat->Bool,(∀ j,X' j=(decide (j=i)||X j))->DM X' rs 0 (d0 σ)=r.act (DM X rs 0 (d0 σ)):=by
 have fg:i<l.length:=(zS hx).1;have hf:=h.fits i x r hx hr;have ux:=ZS h i (by omega);generalize hT:DM X rs 0 (d0 σ)=TX;have ri : ∀ (j:Nat) (r':DU),rs[j]? = some r' -> ∃ y,l[j]? = some y/\RO C y r' (σ j) (σ (j+1)):=λ j r' hj=>by
  have ek:j<l.length:=by rw[<-h.len];exact (zS hj).1
  exact ⟨l[j],zE ek,h.fits j _ _ (zE ek) hj⟩
 have uv : ∀ t∈SH x,TX.1 t=g6 (σ i).tm t:=λ t ht=>by
  have:=lK (X:=X) (Y:=λ j=>decide (j<i)) (t:=t) rs 0 (d0 σ) (d0 σ) rfl (λ j r' hj hd=>by
   simp only[Nat.zero_add];by_cases m8:i=j
   ·subst m8;simp [jr]
   ·obtain ⟨y,hy,fb⟩:=ri j r' hj
    rcases (QI h.ok hx hy m8).1 with ho|⟨h1,_⟩
    ·exact oX hX jr cw m8 ho
    ·exact absurd ht (h1 t (by rw[<-fb.d];exact hd)))
  rw[hT,ux]at this;exact this
 have Bl : ∀ t∈HG x.op,TX.1 t=g6 (σ i).tm t:=λ t ht=>uv t (by simp [SH,ht])
 have dp : ∀ s,(∀ (j:Nat) (y:AI) (r':DU),i≠j->l[j]? = some y->rs[j]? = some r'->H2 (Region.before ops) i j=true \/ ∀ o,r'.own o s=o s)->TX.2 s=(σ i).own s:=λ s hs=>by
  have:=lJ (X:=X) (Y:=λ j=>decide (j<i)) (s:=s) rs 0 (d0 σ) (d0 σ) rfl (λ j r' hj=>by
   simp only[Nat.zero_add];by_cases m8:i=j
   ·subst m8;left;simp [jr]
   ·obtain ⟨y,hy,fb⟩:=ri j r' hj
    rcases hs j y r' m8 hy hj with ho|ho
    ·exact .inl (oX hX jr cw m8 ho)
    ·exact .inr ho)
  rw[hT,ux]at this;exact this
 have ki : ∀ (j:Nat) (y:AI) (r':DU),l[j]? = some y->rs[j]? = some r'->JW y.op=false -> ∀ o,r'.own o=o:=λ j y r' hy hj hm o=>by
  simp only[JW,Bool.or_eq_false_iff]at hm;exact Q2 (h.fits j y r' hy hj) hm.1.1 (by simpa using hm.2) o
 have Be : ∀ (j:Nat) (y:AI),i≠j->l[j]? = some y->GR y.op=true->JW x.op=true->H2 (Region.before ops) i j=true:=λ j y m8 hy ht jg=>by
  rcases (QI h.ok hy hx (Ne.symm m8)).1 with ho|⟨_,h2,_⟩
  ·rw[oV];exact ho
  ·rw[ht,jg]at h2;simp at h2
 have hg:KD TX.1 x.guard=some r.g:=by
  rw[<-hf.g];cases yj:x.guard with
  | none=>rfl
  | some gw =>
   obtain ⟨g,w⟩:=gw;simp only[KD];rw[uv g (by simp [SH,yj])]
 have uy:GR x.op=true->TX.2=(σ i).own:=λ ht=>by
  funext s
  refine dp s λ j y r' m8 hy hj => ?_
  cases hm:JW y.op with
  | false=>exact .inr λ o=>by rw[ki j y r' hy hj hm o]
  | true =>
   rcases (QI h.ok hx hy m8).1 with ho|⟨_,h2,_⟩
   ·exact .inl ho
   ·rw[ht,hm]at h2;simp at h2
 have Bc:U2 x.op=true->TX.2.m7 x.c5=(σ i).own.m7 x.c5:=λ jt=>by
  refine Rh λ s hs=>dp s λ j y r' m8 hy hj => ?_
  have jg:JW x.op=true:=by simp [JW,jt]
  cases ht:GR y.op with
  | true=>exact .inl (Be j y m8 hy ht jg)
  | false =>
   cases ic:EL y.op with
   | none=>exact .inr λ o=>by rw[Q2 (h.fits j y r' hy hj) ht ic o]
   | some q =>
    rcases (QI h.ok hx hy m8).1 with ho|⟨_,_,h3⟩
    ·exact .inl ho
    ·exact .inr λ o=>pI (h.fits j y r' hy hj) ic (p:=s) (λ e=>hs (by rw[e];exact h3 jt q ic)) o
 have uq : ∀ s,EL x.op=some s->TX.2 s=(σ i).own s:=λ s qt=>by
  have jg:JW x.op=true:=by simp [JW,qt]
  exact dp s λ j y r' m8 hy hj=>by
   cases ht:GR y.op with
   | true=>exact .inl (Be j y m8 hy ht jg)
   | false =>
    cases ic:EL y.op with
    | none=>exact .inr λ o=>by rw[Q2 (h.fits j y r' hy hj) ht ic o]
    | some q =>
     rcases (QI h.ok hx hy m8).2 with ho|xi
     ·exact .inl ho
     ·exact .inr λ o=>pI (h.fits j y r' hy hj) ic (xi s q qt ic) o
 have Ey:r.g=true->e7 C x.c5 (EF TX.1) TX.2 x.op=some r.E:=λ df=>by
  rw[Kw Bl,<-hf.E df];cases ht:GR x.op with
  | true=>rw[uy ht]
  | false=>exact Kz _ _ ht Bc uq
 have hval:(if r.g then r.E.valOf TX.2 else .j4 [])=r.v:=by
  rw[hf.v];cases Ij:r.g with
  | false=>rfl
  | true =>
   simp only[if_true];cases qt:EL x.op with
   | none =>
    cases ht:GR x.op with
    | true=>rw[uy ht]
    | false =>
     obtain ⟨v,hv⟩:=jF (hf.E Ij) ht qt;rw[hv];rfl
   | some s =>
    have xi:=uq s qt;rcases jE (hf.E Ij) qt with ⟨b,v,hv|hv⟩|⟨x,v,hv|hv⟩<;>rw[hv]<;>simp only[B7.valOf,AH.g8,xi]
 refine ⟨hg,Ey,hval,λ X' rh => ?_⟩;rw[<-hT];refine lI hr jr rh _ λ j r' hj l7 Eb z => ?_
 obtain ⟨y,hy,fb⟩:=ri j r' hj;have m8:i≠j:=by omega
 have Fp : ¬ H2 (Region.before ops) i j=true:=λ ho=>by
  have:=oW hX Eb l7 ho
  rw[jr]at this;cases this
 obtain ⟨Fu,yn⟩:=QI h.ok hx hy m8;obtain ⟨uo,yp⟩:=QI h.ok hy hx (Ne.symm m8);have hp:=Fu.resolve_left Fp;have hq:=uo.resolve_left (by rw[oV];exact Fp);unfold DU.act;refine Prod.ext ?_ ?_
 ·funext t
  simp only[IR];by_cases h1:r'.d=some t<;>by_cases h2:r.d=some t
  ·exact absurd (by rw[hf.d]at h2;simp [SH,h2]) (hp.1 t (by rw[<-fb.d];exact h1))
  ·simp [h1,h2]
  ·simp [h1,h2]
  ·simp [h1,h2]
 ·show r'.own (r.own z.2)=r.own (r'.own z.2)
  cases jg:JW x.op with
  | false=>rw[ki i x r hx hr jg,ki i x r hx hr jg]
  | true =>
   cases np:JW y.op with
   | false=>rw[ki j y r' hy hj np,ki j y r' hy hj np]
   | true =>
    have Cy:GR x.op=false:=by
     rcases hp.2.1 with h1|h1
     ·exact h1
     ·rw[np]at h1;cases h1
    have Jf:GR y.op=false:=by
     rcases hq.2.1 with h1|h1
     ·exact h1
     ·rw[jg]at h1;cases h1
    cases qt:EL x.op with
    | none=>rw[Q2 hf Cy qt,Q2 hf Cy qt]
    | some s =>
     cases ic:EL y.op with
     | none=>rw[Q2 fb Jf ic,Q2 fb Jf ic]
     | some s' =>
      have xi:=(yn.resolve_left Fp) s s' qt ic;rcases cM hf qt with h1|⟨b,h1⟩
      ·rw[h1,h1]
      ·rcases cM fb ic with h2|⟨b',h2⟩
       ·rw[h2,h2]
       ·rw[h1,h2,h2,h1]
        funext q
        simp only[AH.put];by_cases Fx:q=s<;>by_cases xe:q=s'
        ·exact absurd (Fx.symm.trans xe) xi
        ·simp [Fx,xi]
        ·simp [xe,Ne.symm xi]
        ·simp [Fx,xe]
end
end
end Go.e9

namespace Go.e9
open Go.RowKit
section
variable {ops:Array Oper} {md:Region.Mode}
theorem wM {e:Edge} (h:Region.binds .any e=true) (md:Region.Mode):Region.binds md e=true:=by
 unfold Region.binds at *;split at h<;>simp_all
theorem nC (ops:Array Oper) (md:Region.Mode) : ∀ (fuel t:Nat) (b9:Array Bool),b9.size=ops.size -> ∀ (k i:Nat),(Region.linearise.go md ops fuel t b9 [])[k]? = some i ->
  ∃ o,ops[i]? = some o /\ ∀ e∈o.after,Region.binds md e=true->b9.getD e.on false=true\/e.on∈(Region.linearise.go md ops fuel t b9 []).take k
 | 0,t,b9,hs,k,i,h=>by simp [Region.linearise.go]at h
 | fuel+1,t,b9,hs,k,i,h=>by
  have nm:Region.linearise.go md ops (fuel+1) t b9 []=match (Region.ready md ops b9)[t%(Region.ready md ops b9).length]? with
   | some i=>i::Region.linearise.go md ops fuel (t/(Region.ready md ops b9).length) (b9.setIfInBounds i true) []
   | none=>[]:=by
   simp only[Region.linearise.go];change (match (Region.ready md ops b9)[t%(Region.ready md ops b9).length]? with
    | some i=>Region.linearise.go md ops fuel (t/(Region.ready md ops b9).length) (b9.setIfInBounds i true) [i]
    | none=>[].reverse)=_
   cases (Region.ready md ops b9)[t%(Region.ready md ops b9).length]? with
   | none=>rfl
   | some i=>simp only[];rw[linearise_go_acc];rfl
  rw[nm]at h ⊢;cases hr:(Region.ready md ops b9)[t%(Region.ready md ops b9).length]? with
  | none=>rw[hr]at h;simp at h
  | some q =>
   rw[hr]at h;simp only at h ⊢;obtain ⟨_,oq,Zs,hq⟩:=mem_ready.1 (zM hr);cases k with
   | zero =>
    simp at h;subst h;exact ⟨oq,Zs,λ e he hb => .inl (hq e he hb)⟩
   | succ k =>
    simp at h;obtain ⟨o,ho,hh⟩:=nC ops md fuel _ _ (by simpa using hs) k i h;refine ⟨o,ho,λ e he hb => ?_⟩;rcases hh e he hb with h1|h1
    ·by_cases heq:e.on=q
     ·right;simp [heq]
     ·left
      rw[getD_set_ne false (Ne.symm heq)]at h1;exact h1
    ·right;simp [h1]
theorem aH {p:Nat->Bool} : ∀ (l:List Nat),(∃ i∈l,p i=false) -> ∃ k i,l[k]? = some i/\p i=false /\ ∀ j∈l.take k,p j=true
 | [],⟨i,hi,_⟩=>by simp at hi
 | x::r,⟨i,hi,hp⟩=>by
  cases hx:p x with
  | false=>exact ⟨0,x,rfl,hx,by simp⟩
  | true =>
   have : ∃ i∈r,p i=false:=by
    rcases List.mem_cons.1 hi with h|h
    ·subst h;rw[hx]at hp;cases hp
    ·exact ⟨i,h,hp⟩
   obtain ⟨k,j,h1,h2,h3⟩:=aH r this;refine ⟨k+1,j,by simpa using h1,h2,λ q hq => ?_⟩;simp only[List.take_succ_cons,List.mem_cons]at hq;rcases hq with h|h
   ·subst h;exact hx
   ·exact h3 q h
theorem progress {l:List AI} (hd:QH ops l=true) (Au:md = .gc->Region.departs ops=true) {b9:Array Bool} (hs:b9.size=ops.size) (hr:Region.ready md ops b9=[]) : ∀ j,j<ops.size->b9.getD j false=true:=by
 intro j hj;cases ek:b9.getD j false with
 | true=>rfl
 | false =>
  exfalso;simp only[QH,Bool.and_eq_true]at hd;obtain ⟨⟨_,fw⟩,qg⟩:=hd;have ku : ∀ i,i<ops.size->b9.getD i false=false -> ¬ ∀ o,ops[i]? = some o -> ∀ e∈o.after,Region.binds md e=true->b9.getD e.on false=true:=λ i hi hl wg=>by
   have:i∈Region.ready md ops b9:=mem_ready.2 ⟨by
    have:i<b9.size:=by omega
    simp [Array.getD,this]at hl ⊢;exact hl,ops[i],Array.getElem?_eq_getElem hi,λ e he hb=>wg ops[i] (Array.getElem?_eq_getElem hi) e he hb⟩
   rw[hr]at this;simp at this
  by_cases Cm:md = .gc
  ·subst Cm
   rw[Au rfl]at qg;simp only[Bool.not_true,Bool.false_or,List.all_eq_true,List.mem_range,List.contains_iff_mem]at qg;obtain ⟨k,i,h1,h2,h3⟩:=aH (p:=λ q=>b9.getD q false) (Region.linearise .gc ops 0) ⟨j,qg j hj,ek⟩;obtain ⟨o,ho,hh⟩:=nC ops .gc ops.size 0 (Array.replicate ops.size false) (by simp) k i h1;have hi:i<ops.size:=(Array.getElem?_eq_some_iff.1 ho).1;refine ku i hi h2 λ o' td e he hb => ?_
   rw[ho]at td;obtain rfl:o=o':=by simpa using td
   rcases hh e he hb with h4|h4
   ·simp [Array.getD]at h4
   ·exact h3 e.on h4
  ·obtain ⟨k,i,h1,h2,h3⟩:=aH (p:=λ q=>b9.getD q false) (List.range ops.size) ⟨j,by simpa using hj,ek⟩
   have Ao:i=k:=by
    have wz:k<ops.size:=by have:=(zS h1).1;simpa using this
    rw[List.getElem?_range wz]at h1;simpa using h1.symm
   subst Ao;have hi:i<ops.size:=by have:=(zS h1).1;simpa using this
   refine ku i hi h2 λ o ho e he hb => ?_
   rw[List.all_eq_true]at fw;have xb:(o,i)∈ops.toList.zipIdx:=List.mem_zipIdx_iff_getElem?.2 (by simpa using ho);have h4:=fw (o,i) xb;simp only[Array.all_eq_true_iff_forall_mem,Bool.or_eq_true,decide_eq_true_eq]at h4;rcases h4 e he with h5|h5
   ·exact h3 e.on (by rw[List.take_range];simp;omega)
   ·exfalso
    unfold Region.binds at hb;split at h5
    ·rename_i row u6
     rw[u6]at hb;simp at hb;exact Cm hb
    ·cases h5
variable {B:Nat} {S:Nat->Prop} {w0:World} {m0:M} {N:Nat}
variable {P:Program} {num:Nat->Nat} {C:Cl} {Q:Exit->Act->World->Prop}
def RF (b9:Array Bool) (n:Nat):Nat:=(List.range n).countP (λ j => !b9.getD j false)
theorem gS {α:Type} {p q:α->Bool} : ∀ {l:List α} {x:α},(∀ y∈l,q y=true->p y=true)->x∈l->p x=true->q x=false->l.countP q<l.countP p
 | [],x,_,hx,_,_=>by simp at hx
 | y::r,x,h,hx,hp,hq=>by
  have hle:r.countP q<=r.countP p:=List.countP_mono_left λ z hz Zx=>h z (by simp [hz]) Zx
  rw[List.countP_cons,List.countP_cons];rcases List.mem_cons.1 hx with rfl|hx
  ·simp only[hp,hq,if_true,Bool.false_eq_true,if_false]
   omega
  ·have:=gS (l:=r) (λ z hz=>h z (by simp [hz])) hx hp hq
   by_cases Fy:q y=true
   ·simp only[Fy,h y (by simp) Fy,if_true];omega
   ·simp only[Fy,Bool.false_eq_true,if_false]
    split<;>omega
theorem Vc (hC:GS P num C) {l:List AI} (j8:OX P num N ops ops.toList l=true) {σ:Nat->St} {rs:List DU} (h:VR C ops l σ rs) (Au:md = .gc->Region.departs ops=true)
  (hQ : ∀ m' a',m'.own=(σ l.length).own->FL B S w0 m0 N (g6 (σ l.length).tm) m' a'->Q .normal a' m'.w) :
  ∀ (fuel:Nat) (b9:Array Bool) (a:Act) (m:M),b9.size=ops.size->RF b9 ops.size<=fuel->RN ops (λ j=>b9.getD j false)->m.own=(DM (λ j=>b9.getD j false) rs 0 (d0 σ)).2->FL B S w0 m0 N (DM (λ j=>b9.getD j false) rs 0 (d0 σ)).1 m a->wpAny P md ops Q fuel b9 a m.w:=by
 have hlen:ops.size=l.length:=by have:=(UR j8).1;simpa using this
 have final : ∀ (b9:Array Bool) (a:Act) (m:M),(∀ j,j<ops.size->b9.getD j false=true)->m.own=(DM (λ j=>b9.getD j false) rs 0 (d0 σ)).2->FL B S w0 m0 N (DM (λ j=>b9.getD j false) rs 0 (d0 σ)).1 m a->Q .normal a m.w:=λ b9 a m wg k7 hf=>by
  have:DM (λ j=>b9.getD j false) rs 0 (d0 σ)=(g6 (σ l.length).tm,(σ l.length).own):=by
   rw[<-ZS h l.length (Nat.le_refl _)];refine W5 rs 0 _ λ i hi => ?_
   simp only[Nat.zero_add];rw[wg i (by rw[hlen,<-h.len];exact hi)];simp;rw[<-h.len];exact hi
  rw[this]at k7 hf;exact hQ m a k7 hf
 have zm : ∀ b9:Array Bool,RF b9 ops.size<=0 -> ∀ j,j<ops.size->b9.getD j false=true:=λ b9 h0 j hj=>by
  have h1:RF b9 ops.size=0:=by omega
  unfold RF at h1;rw[List.countP_eq_zero]at h1;simpa using h1 j (by simpa using hj)
 intro fuel;induction fuel with
 | zero =>
  intro b9 a m v5 hn Eu k7 hf;refine ⟨?_,final b9 a m (zm b9 hn) k7 hf⟩;cases hr:Region.ready md ops b9 with
  | nil=>rfl
  | cons i r =>
   obtain ⟨h1,o,ho,_⟩:=mem_ready.1 (show i∈Region.ready md ops b9 by rw[hr];simp);have hi:i<ops.size:=(Array.getElem?_eq_some_iff.1 ho).1;have h2:=zm b9 hn i hi;have fg:i<b9.size:=by omega
   simp [Array.getD,fg]at h1 h2;rw[h1]at h2;cases h2
 | succ fuel ih =>
  intro b9 a m v5 hn Eu k7 hf;refine ⟨λ hr=>final b9 a m (progress h.ok Au v5 hr) k7 hf,λ i hi => ?_⟩;obtain ⟨h1,o,ho,wu⟩:=mem_ready.1 hi;have Yy:i<ops.size:=(Array.getElem?_eq_some_iff.1 ho).1;have fg:i<b9.size:=by omega
  have lj:b9.getD i false=false:=by
   simp [Array.getD,fg]at h1 ⊢;exact h1
  have sw:i<l.length:=by omega
  have cg:i<rs.length:=by rw[h.len];exact sw
  have hx:l[i]? = some l[i]:=zE sw;have hr:rs[i]? = some rs[i]:=zE cg;have cw : ∀ o',ops[i]? = some o' -> ∀ e∈o'.after,Region.binds .any e=true->b9.getD e.on false=true:=λ o' td e he hb=>by
   rw[ho]at td;obtain rfl:o=o':=by simpa using td
   exact wu e he (wM hb md)
  obtain ⟨g1,g2,g3,g4⟩:=Mr h hx hr Eu lj cw;have Ft:=(UR j8).2 i o l[i] (by simpa using ho) hx;have rh : ∀ j,(b9.setIfInBounds i true).getD j false=(decide (j=i)||b9.getD j false):=λ j=>by
   by_cases Fh:j=i
   ·subst Fh;simp [Array.getD,fg]
   ·rw[getD_set_ne false (Ne.symm Fh)];simp [Fh]
  refine rS hC ho Ft hf g1 (λ hg=>by rw[k7];exact g2 hg) λ m' a' iw kf => ?_
  have ji:=g4 _ rh;refine ih (b9.setIfInBounds i true) a' m' (by simpa using v5) ?_ ?_ ?_ ?_
  ·have l7:RF (b9.setIfInBounds i true) ops.size<RF b9 ops.size:=by
    refine gS (x:=i) (λ j _ hj => ?_) (by simpa using Yy) (by simp [lj]) (by rw[rh];simp);rw[rh]at hj;simp at hj ⊢;exact hj.2
   omega
  ·intro j oj hj Cr e he hb
   change (b9.setIfInBounds i true).getD j false=true at hj;show (b9.setIfInBounds i true).getD e.on false=true;rw[rh]at hj ⊢;simp only[Bool.or_eq_true,decide_eq_true_eq]at hj ⊢;rcases hj with rfl|hj
   ·exact .inr (cw oj Cr e he hb)
   ·exact .inr (Eu j oj hj Cr e he hb)
  ·rw[ji,iw,k7]
   rfl
  ·rw[ji]
   rw[k7,g3]at kf;have hd:(l[i]).dst=(rs[i]).d:=(h.fits i _ _ hx hr).d.symm;rw[hd]at kf;exact kf
theorem Vd (hC:GS P num C) {id:Nat} {l:List AI} (j8:OX P num N ops ops.toList l=true) (hd:QH ops l=true) {st j9:St} (j7:DE C l st=some j9) {m:M} {a:Act} (k7:m.own=st.own) (hf:FL B S w0 m0 N (g6 st.tm) m a)
  (hQ : ∀ m' a',m'.own=j9.own->FL B S w0 m0 N (g6 j9.tm) m' a'->Q .normal a' m'.w):(Code.region id ops true).wp P Q a m.w:=by
 obtain ⟨σ,rs,h0,h1,hl,h2⟩:=trace j7;have hD:VR C ops l σ rs:=⟨hd,hl,h2⟩;obtain ⟨gf,Ak⟩:=grow hf.mem ((Below.refl m.w.heap.size m.w).drew);have qb:FL B S w0 m0 N (g6 st.tm) ⟨m.ν,m.own,m.w.drew⟩ a:=⟨gf,hf.ext.trans Ak,λ i=>Ak.cv (hf.tm i),hf.size,hf.defers⟩;have Hs:DM (λ j=>(Array.replicate ops.size false).getD j false) rs 0 (d0 σ)=d0 σ:=aM rs 0 _ λ i _=>by simp [Array.getD]
 have key : ∀ md:Region.Mode,(md = .gc->Region.departs ops=true) -> ∀ t,wpOps P ops Q (Region.linearise md ops t) a m.w.drew:=λ md Au t=>by
  refine wpAny_sound ops.size t (Array.replicate ops.size false) a m.w.drew ?_;refine Vc hC j8 hD Au (by rw[h1];exact hQ) ops.size _ a ⟨m.ν,m.own,m.w.drew⟩ (by simp) ?_ ?_ ?_ ?_
  ·unfold RF
   exact Nat.le_trans List.countP_le_length (by simp)
  ·intro j o hj
   simp [Array.getD]at hj
  ·rw[Hs];simp [d0,h0,k7]
  ·rw[Hs];simpa [d0,h0] using qb
 refine wp_region_draw λ t => ?_
 change wpOps P ops Q _ a m.w.drew;unfold Region.schedule;split
 ·exact key .any (λ h=>by cases h) t
 ·rename_i Aj
  have Ie:Region.departs ops=true:=by simp at Aj;exact Aj.2
  split
  ·exact key .text (λ_=>Ie) _
  ·exact key .gc (λ_=>Ie) _
end
end Go.e9

namespace Go.e9
open Go.RowKit
section
variable {B:Nat} {S:Nat->Prop} {w0:World} {m0:M} {N:Nat}
variable {P:Program} {num:Nat->Nat} {C:Cl}
theorem Ut (m:Tm) (l:List Nat) (j:Nat):g6 (z9 m l) j=g6 m j\/g6 (z9 m l) j = .any:=by
 induction m with
 | nil=>exact .inl rfl
 | cons x r ih =>
  obtain ⟨i,v⟩:=x;simp only[z9];split
  ·by_cases h:j=i
   ·subst h
    rename_i hc;right
    clear ih;induction r with
    | nil=>rfl
    | cons y q ih =>
     obtain ⟨k,u⟩:=y;simp only[z9];split
     ·exact ih
     ·rename_i hk
      have : ¬ j=k:=λ e=>by subst e;exact hk hc
      simp only[g6,if_neg this];exact ih
   ·rcases ih with h1|h1
    ·left;simp only[g6,if_neg h];exact h1
    ·right;exact h1
  ·by_cases h:j=i
   ·left;simp [g6,h]
   ·simp only[g6,if_neg h]
    exact ih
inductive HS (P:Program) (num:Nat->Nat) (N:Nat):List It->List Item->Prop
 | nil:HS P num N [] []
 | code {c:Code} {a:BF} {k:List It} {t:List Item} (h:EV P num N c a=true) (hk:HS P num N k t):HS P num N (.code a::k) (.code c::t)
 | drop {ts ss:List Nat} {k:List It} {t:List Item} (hk:HS P num N k t):HS P num N (.lf ts ss::k) t
 | e6 {id:Nat} {k:List It} {t:List Item} (hk:HS P num N k t):HS P num N (.e6 id::k) (.inBlock id::t)
 | lp {c:Code} {a:BF} {k:List It} {t:List Item} (h:EV P num N c a=true) (hk:HS P num N k t):HS P num N (.lp a::k) (.inLoop c::t)
 | scope {c:Code} {k:List It} {t:List Item} (hk:HS P num N k t):HS P num N k (.inScope c::t)
theorem qT {b:Frame} {a:Act} {k:List Item} {cs:List Frame} {w:World} {c:Code}:step P (lone (b.at a (.inScope c::k)) cs w) = .next (lone (b.at a k) cs w) :=
 step_lone_go (by simp [stepG,stepG.exec,Frame.at])
theorem Wh {b:Frame} {a:Act} {k:List Item} {cs:List Frame} {w:World} {c:Code}:step P (lone (b.at a (.code (.scope c)::k)) cs w) = .next (lone (b.at a (.code c :: .inScope c::k)) cs w) :=
 step_lone_go (by simp [stepG,stepG.exec,Frame.at])
theorem SD {id:Nat} : ∀ {k:List It} {t:List Item},HS P num N k t -> ∀ {k':List It},FG id k=some k' -> ∃ t',exitTo id t=some t'/\HS P num N k' t'
 | _,_,.nil,k',h=>by simp [FG]at h
 | _,_,.code h0 hk,k',h=>by
  simp only[FG]at h;obtain ⟨t',h1,h2⟩:=SD hk h;exact ⟨t',by simpa [exitTo] using h1,h2⟩
 | _,_,.drop hk,k',h=>by
  simp only[FG]at h;exact SD hk h
 | _,_,.e6 (id:=Df) hk,k',h=>by
  simp only[FG]at h;split at h
  ·rename_i he
   subst he;simp only[Option.some.injEq]at h;subst h;exact ⟨_,by simp [exitTo],hk⟩
  ·rename_i he
   obtain ⟨t',h1,h2⟩:=SD hk h;exact ⟨t',by simpa [exitTo,he] using h1,h2⟩
 | _,_,.lp h0 hk,k',h=>by
  simp only[FG]at h;obtain ⟨t',h1,h2⟩:=SD hk h;exact ⟨t',by simpa [exitTo] using h1,h2⟩
 | _,_,.scope hk,k',h=>by
  obtain ⟨t',h1,h2⟩:=SD hk h;exact ⟨t',by simpa [exitTo] using h1,h2⟩
def eC (B:Nat) (S:Nat->Prop) (w0:World) (m0:M) (N:Nat) (P:Program) (b:Frame) (cs:List Frame) (Hc:Machine) (j9:St):Prop :=
 ∃ a' m' m9,Steps P Hc (lone { b.at a' m9 with mode := .returning } cs m'.w)/\m'.own=j9.own/\FL B S w0 m0 N (g6 j9.tm) m' a'
theorem Sj (hC:GS P num C) (b:Frame) (cs:List Frame) : ∀ (n:Nat) (k:List It) (st j9:St),run C n k st=some j9 -> ∀ (t:List Item),HS P num N k t -> ∀ (m:M) (a:Act),m.own=st.own->FL B S w0 m0 N (g6 st.tm) m a ->
  eC B S w0 m0 N P b cs (lone (b.at a t) cs m.w) j9:=by
 intro n;induction n with
 | zero=>intro k st j9 h;simp [run]at h
 | succ n ih =>
  intro k st j9 h t ht;have fin : ∀ (t:List Item),HS P num N [] t -> ∀ (m:M) (a:Act),m.own=st.own->FL B S w0 m0 N (g6 st.tm) m a->st=j9->eC B S w0 m0 N P b cs (lone (b.at a t) cs m.w) j9:=by
   intro t ht;generalize hk:([]:List It)=kk at ht;induction ht with
   | nil =>
    intro m a k7 hf he;subst he;exact ⟨a,m,[],.one step_end,k7,hf⟩
   | scope fm lz =>
    intro m a k7 hf he;obtain ⟨a',m',m9,h1,h2⟩:=lz hk m a k7 hf he;exact ⟨a',m',m9,.head qT h1,h2⟩
   | code=>cases hk
   | drop=>cases hk
   | e6=>cases hk
   | lp=>cases hk
  cases k with
  | nil =>
   intro m a k7 hf;simp only[run,Option.some.injEq]at h;exact fin t ht m a k7 hf h
  | cons it k =>
   generalize gv:it::k=kk at ht;induction ht with
   | nil=>cases gv
   | scope fm lz =>
    intro m a k7 hf;obtain ⟨a',m',m9,h1,h2⟩:=lz gv m a k7 hf;exact ⟨a',m',m9,.head qT h1,h2⟩
   | @e6 id k2 t2 fm lz =>
    intro m a k7 hf;obtain ⟨rfl,rfl⟩:it = .e6 id/\k=k2:=by simpa using gv
    simp only[run]at h;obtain ⟨a',m',m9,h1,h2⟩:=ih k st j9 h t2 fm m a k7 hf;exact ⟨a',m',m9,.head step_inBlock h1,h2⟩
   | @lp c ac k2 t2 j8 fm lz =>
    intro m a k7 hf;obtain ⟨rfl,rfl⟩:it = .lp ac/\k=k2:=by simpa using gv
    simp only[run]at h;obtain ⟨a',m',m9,h1,h2⟩:=ih _ st j9 h (.code c :: .inLoop c::t2) (.code j8 (.lp j8 fm)) m a k7 hf;exact ⟨a',m',m9,.head step_inLoop h1,h2⟩
   | @drop ts ss k2 t2 fm lz =>
    intro m a k7 hf;obtain ⟨rfl,rfl⟩:it = .lf ts ss/\k=k2:=by simpa using gv
    simp only[run]at h;obtain ⟨js,he⟩:=Mt hf.mem ss;have kf:FL B S w0 m0 N (g6 (z9 st.tm ts)) ⟨m.ν,m.own.drop ss,m.w⟩ a:=⟨js,hf.ext.trans he,λ i=>by
     rcases Ut st.tm ts i with h1|h1
     ·rw[h1];exact he.cv (hf.tm i)
     ·rw[h1];exact .any _,hf.size,hf.defers⟩
    obtain ⟨a',m',m9,h1,h2,h3⟩:=ih k ⟨z9 st.tm ts,st.own.drop ss⟩ j9 h t2 fm ⟨m.ν,m.own.drop ss,m.w⟩ a (by simp [k7]) kf;exact ⟨a',m',m9,h1,h2,h3⟩
   | @code c ac k2 t2 j8 fm lz =>
    obtain ⟨rfl,rfl⟩:it = .code ac/\k=k2:=by simpa using gv
    clear lz gv;intro m a k7 hf;cases ac with
    | dr ac ts ss =>
     simp only[EV]at j8;simp only[run]at h;exact ih _ st j9 h _ (.code j8 (.drop fm)) m a k7 hf
    | skip =>
     simp only[run]at h;cases c with
     | skip =>
      obtain ⟨a',m',m9,h1,h2⟩:=ih _ st j9 h _ fm m a k7 hf;exact ⟨a',m',m9,.head step_skip h1,h2⟩
     | label =>
      obtain ⟨a',m',m9,h1,h2⟩:=ih _ st j9 h _ fm m a k7 hf;exact ⟨a',m',m9,.head step_label h1,h2⟩
     | _=>simp [EV]at j8
    | scope ac =>
     simp only[run]at h;cases c with
     | scope c =>
      simp only[EV]at j8;obtain ⟨a',m',m9,h1,h2⟩:=ih _ st j9 h _ (.code j8 (.scope (c:=c) fm)) m a k7 hf;exact ⟨a',m',m9,.head Wh h1,h2⟩
     | _=>simp [EV]at j8
    | seq a1 a2 =>
     simp only[run]at h;cases c with
     | seq c1 c2 =>
      simp only[EV,Bool.and_eq_true]at j8;obtain ⟨a',m',m9,h1,h2⟩:=ih _ st j9 h _ (.code j8.1 (.code j8.2 fm)) m a k7 hf;exact ⟨a',m',m9,.head step_seq h1,h2⟩
     | _=>simp [EV]at j8
    | cond x a1 a2 =>
     simp only[run]at h;cases c with
     | cond xc c1 c2 =>
      simp only[EV,Bool.and_eq_true]at j8;have u7:CV B S m (st.ev x) (a.eval xc):=by rw[jP];exact hf.says xc x j8.1.1
      split at h
      ·rename_i hx
       rw[hx]at u7;obtain ⟨a',m',m9,h1,h2⟩:=ih _ st j9 h _ (.code j8.1.2 fm) m a k7 hf;exact ⟨a',m',m9,.head (step_cond (QF u7)) h1,h2⟩
      ·rename_i hx
       rw[hx]at u7;obtain ⟨a',m',m9,h1,h2⟩:=ih _ st j9 h _ (.code j8.2 fm) m a k7 hf;exact ⟨a',m',m9,.head (step_cond (QF u7)) h1,h2⟩
      ·cases h
     | _=>simp [EV]at j8
    | block id ac =>
     simp only[run]at h;cases c with
     | block Df c =>
      simp only[EV,Bool.and_eq_true,beq_iff_eq]at j8;obtain ⟨rfl,j8⟩:=j8;obtain ⟨a',m',m9,h1,h2⟩:=ih _ st j9 h _ (.code j8 (.e6 fm)) m a k7 hf;exact ⟨a',m',m9,.head step_block h1,h2⟩
     | _=>simp [EV]at j8
    | loop ac =>
     simp only[run]at h;cases c with
     | loop c =>
      simp only[EV]at j8;obtain ⟨a',m',m9,h1,h2⟩:=ih _ st j9 h _ (.code j8 (.lp j8 fm)) m a k7 hf;exact ⟨a',m',m9,.head step_loop h1,h2⟩
     | _=>simp [EV]at j8
    | exit id =>
     simp only[run]at h;cases c with
     | exit Df =>
      simp only[EV,beq_iff_eq]at j8;subst j8;split at h
      ·rename_i k' ox
       obtain ⟨t',e1,e2⟩:=SD fm ox;obtain ⟨a',m',m9,h1,h2⟩:=ih _ st j9 h _ e2 m a k7 hf;exact ⟨a',m',m9,.head (step_exit e1) h1,h2⟩
      ·cases h
     | _=>simp [EV]at j8
    | ret =>
     simp only[run,Option.some.injEq]at h;subst h;cases c with
     | ret=>exact ⟨a,m,.code .ret::t2,.one step_ret,k7,hf⟩
     | _=>simp [EV]at j8
    | ops l draw =>
     simp only[run]at h;split at h
     ·rename_i A8 Bh
      cases c with
      | region id ops ni =>
       simp only[EV,Bool.and_eq_true,beq_iff_eq]at j8;obtain ⟨⟨rfl,Ay⟩,mw⟩:=j8;have hwp:(Code.region id ops ni).wp P (λ e a' w'=>e = .normal /\ ∃ m',m'.w=w'/\m'.own=A8.own/\FL B S w0 m0 N (g6 A8.tm) m' a') a m.w:=by
        cases ni with
        | true=>exact Vd hC Ay (by simpa using mw) Bh k7 hf λ m' a' h1 h2=>⟨rfl,m',rfl,h1,h2⟩
        | false =>
         refine wp_region ?_;rw[List.range_eq_range'];exact rT hC Ay ops.size 0 st A8 m a (by omega) (by simpa using Bh) k7 hf λ m' a' h1 h2=>⟨rfl,m',rfl,h1,h2⟩
       obtain ⟨e,a1,w1,⟨rfl,m1,rfl,Az,qb⟩,Em⟩:=hwp b t2 cs;obtain ⟨a',m',m9,h1,h2,h3⟩:=ih _ A8 j9 h _ fm m1 a1 Az qb;exact ⟨a',m',m9,Steps.trans Em h1,h2,h3⟩
      | _=>simp [EV]at j8
     ·cases h
end
end Go.e9
