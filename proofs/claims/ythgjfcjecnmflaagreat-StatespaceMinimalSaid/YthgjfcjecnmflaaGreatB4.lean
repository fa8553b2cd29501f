/-
  Calls: readings handed over and handed back.
-/
import Derived.Test.YthgjfcjecnmflaaGreatB3
import Derived.Orders
set_option linter.unusedSimpArgs false
set_option linter.unusedVariables false
set_option linter.unnecessarySimpa false
namespace Go.e8
open Go.RowKit
theorem PS {α β:Type} (f:α->Option β) : ∀ {l:List α} {l':List β},l.mapM f=some l'->l.length=l'.length /\ ∀ (i:Nat) (x:α),l[i]? = some x -> ∃ y,l'[i]? = some y/\f x=some y
 | [],l',h=>by
  simp at h;subst h;exact ⟨rfl,λ i x hx=>by simp at hx⟩
 | x::r,l',h=>by
  simp only[List.mapM_cons,Option.bind_eq_bind,Option.pure_def]at h;cases hx:f x with
  | none=>simp [hx]at h
  | some y =>
   cases hr:r.mapM f with
   | none=>simp [hx,hr]at h
   | some r' =>
    simp [hx,hr]at h;subst h;obtain ⟨h1,h2⟩:=PS f hr;refine ⟨by simp [h1],λ i z hz => ?_⟩;cases i with
    | zero=>simp at hz;subst hz;exact ⟨y,rfl,hx⟩
    | succ i=>exact h2 i z (by simpa using hz)
section
variable {B:Nat} {S:Nat->Prop} {w0:World} {m:M}
variable {P:Program} {num:Nat->Nat} {o:Oper} {a:Act} {ρ:AR->AV}
theorem xZ (hm:BL B S w0 m) (l0:Bool) (R:Bool->Nat->Prop) (hR : ∀ l b,b<m.w.heap.size->safe B S m l b->R l b) (hL : ∀ s t g,live m s t->m.ν s t=some g->R l0 g) :
  ∀ (d:Nat) (c c':AV) (v:Value),snap m.own l0 d c=some c'->CC B S m c v->Rd m.w R c' v:=by
 intro d;induction d with
 | zero =>
  intro c c' v h hc;cases hc with
  | rd hr =>
   have:c'=c:=by cases hr<;>simp [snap]at h<;>exact h.symm
   subst this;exact hr.mono hR (λ_ _ _ _=>rfl)
  | nil=>simp [snap]at h;subst h;exact .jl _ _ _
  | _=>simp [snap]at h
 | succ d ih =>
  intro c c' v h hc;cases hc with
  | rd hr =>
   have:c'=c:=by cases hr<;>simp [snap]at h<;>exact h.symm
   subst this;exact hr.mono hR (λ_ _ _ _=>rfl)
  | nil=>simp [snap]at h;subst h;exact .jl _ _ _
  | ptr=>simp [snap]at h
  | u6=>simp [snap]at h
  | row s t z off len ad cap ht er oc ha hb =>
   simp only[snap]at h;cases ff:EB m.own (.row s t z off len) with
   | none=>simp [ff]at h
   | some es =>
    simp only[ff]at h;cases jc:es.mapM (λ cs:List AV=>cs.mapM (snap m.own l0 d)) with
    | none=>simp [jc]at h
    | some es' =>
     simp [jc]at h;subst h;have Ma:(∀ e∈es,e.length=z)/\es.length=len /\ ∃ b,m.own.get s t=some b:=by
      simp only[EB]at ff;cases o7:m.own.get s t with
      | none=>simp [o7]at ff
      | some b =>
       simp only[o7]at ff;split at ff
       ·rename_i hle
        obtain rfl:=Option.some.inj ff;refine ⟨λ e he => ?_,by simp;omega,b,rfl⟩;rw[<-hle.2];exact (hm.e7 s t b o7).1 e (List.mem_of_mem_drop (List.mem_of_mem_take he))
       ·cases ff
     obtain ⟨hz,hlen,b,o7⟩:=Ma;have w5:CV B S m (.row s t z off len) (.slice ad len cap):= .ca (.one (.row s t z off len ad cap ht er oc ha hb));obtain ⟨ad2,Ae,news,Ho,hE⟩:=gP hm w5 ff hz er;obtain ⟨rfl,_,rfl⟩:ad=ad2/\len=es.length/\cap=Ae:=by simpa using Ho
     obtain ⟨mh,ue⟩:=PS _ jc;by_cases h0:es=[]
     ·subst h0
      have:es'=[]:=List.eq_nil_of_length_eq_zero (by rw[<-mh];rfl)
      subst this;have:len=0:=by rw[<-hlen];rfl
      subst this;exact .jl _ _ _
     ·obtain ⟨_,fi⟩:=hb b o7
      rcases fi with ⟨AnF,_⟩|⟨g,arr,e',hg,lg,hh,Ej⟩
      ·exact absurd (List.eq_nil_of_length_eq_zero (by omega)) h0
      ·rw[lg,<-hlen,mh]
       refine .sl l0 es' g (off*z) z cap (λ i j=>news.getD (i*z+j) undef) (λ e=>h0 (List.eq_nil_of_length_eq_zero (by rw[mh,e];rfl))) er (hL s t g ⟨b,o7⟩ hg) (by omega) (λ e' ja => ?_) (λ i e hi j c hj => ?_) (λ i e hi j c hj => ?_)
       ·obtain ⟨i,hi,rfl⟩:=List.getElem_of_mem ja
        have q7:i<es.length:=by omega
        obtain ⟨y,hy,gu⟩:=ue i es[i] (zE q7);have:es'[i]=y:=by
         have:=(zS hy).2;exact this
        rw[this,<-(PS _ gu).1];exact hz _ (List.getElem_mem q7)
       ·have q7:i<es.length:=by rw[mh];exact (zS hi).1
        obtain ⟨y,hy,gu⟩:=ue i es[i] (zE q7);rw[hi]at hy;obtain rfl:e=y:=by simpa using hy
        obtain ⟨gv,_⟩:=PS _ gu;have Cp:j<(es[i]).length:=by rw[gv];exact (zS hj).1
        obtain ⟨u,hu,ga⟩:=hE.rel i es[i] (zE q7) j _ (zE Cp);have:=hE.cells _ lg (i*z+j) u hu
        rw[GQ]at this;simp only[List.getD,hu,Option.getD_some];exact this
       ·have q7:i<es.length:=by rw[mh];exact (zS hi).1
        obtain ⟨y,hy,gu⟩:=ue i es[i] (zE q7);rw[hi]at hy;obtain rfl:e=y:=by simpa using hy
        obtain ⟨gv,kn⟩:=PS _ gu;have Cp:j<(es[i]).length:=by rw[gv];exact (zS hj).1
        obtain ⟨u,hu,ga⟩:=hE.rel i es[i] (zE q7) j _ (zE Cp);obtain ⟨c2,vu,Bh⟩:=kn j _ (zE Cp);rw[hj]at vu;obtain rfl:c=c2:=by simpa using vu
        simp only[List.getD,hu,Option.getD_some];exact ih _ _ _ Bh ga
def DA (w:World) (R:Bool->Nat->Prop) (c:AV) (v:Value):Prop :=
 Rd w R c v \/ ∃ (cs:List AV) (vs:List Value),c = .agg cs/\v = .agg vs.toArray/\cs.length=vs.length /\ ∀ (j:Nat) (x:AV) (u:Value),cs[j]? = some x->vs[j]? = some u->Rd w R x u
theorem dJ (hm:BL B S w0 m) (l0:Bool) (R:Bool->Nat->Prop) (hR : ∀ l b,b<m.w.heap.size->safe B S m l b->R l b) (hL : ∀ s t g,live m s t->m.ν s t=some g->R l0 g)
  {c c':AV} {v:Value} (h:CN m.own l0 c=some c') (hc:CV B S m c v):DA m.w R c' v:=by
 cases hc with
 | any v=>simp [CN,snap]at h
 | l6=>simp [CN,snap]at h
 | ca hc=>cases hc with
  | one hc =>
   have h':snap m.own l0 6 c=some c':=by
    cases hc with
    | rd hr=>cases hr<;>simpa [CN] using h
    | _=>simpa [CN] using h
   exact Or.inl (xZ hm l0 R hR hL 6 c c' v h' hc)
  | fn=>simp [CN,snap]at h
  | tk=>simp [CN,snap]at h
  | agg cs vs q6 =>
   simp only[CN]at h;cases gq:cs.mapM (snap m.own l0 6) with
   | none=>simp [gq]at h
   | some ew =>
    simp [gq]at h;subst h;obtain ⟨h1,h2⟩:=PS _ gq;refine Or.inr ⟨ew,vs,rfl,rfl,h1.symm.trans q6.1,λ j x u hx hu => ?_⟩;have hj:j<cs.length:=by rw[h1];exact (zS hx).1
    obtain ⟨y,hy,gu⟩:=h2 j cs[j] (zE hj);rw[hx]at hy;obtain rfl:x=y:=by simpa using hy
    exact xZ hm l0 R hR hL 6 _ _ _ gu (q6.2 j cs[j] u (zE hj) hu)
def DV (w:World) (R:Bool->Nat->Prop) (c:AV) (v:Value):Prop :=
 DA w R c v \/ ∃ (cs:List AV) (vs:List Value),c = .l6 cs/\v = .tuple vs.toArray/\cs.length=vs.length /\ ∀ (j:Nat) (x:AV) (u:Value),cs[j]? = some x->vs[j]? = some u->DA w R x u
theorem Aia (hm:BL B S w0 m) (l0:Bool) (R:Bool->Nat->Prop) (hR : ∀ l b,b<m.w.heap.size->safe B S m l b->R l b) (hL : ∀ s t g,live m s t->m.ν s t=some g->R l0 g)
  {c c':AV} {v:Value} (h:Q6 m.own l0 c=some c') (hc:CV B S m c v):DV m.w R c' v:=by
 by_cases ht : ∃ cs,c = .l6 cs
 ·obtain ⟨cs,rfl⟩:=ht
  obtain ⟨vs,rfl,hl,w4⟩:=fZ hc;simp only[Q6]at h;cases gq:cs.mapM (CN m.own l0) with
  | none=>simp [gq]at h
  | some ew =>
   simp [gq]at h;subst h;obtain ⟨h1,h2⟩:=PS _ gq;refine Or.inr ⟨ew,vs,rfl,rfl,h1.symm.trans hl,λ j x u hx hu => ?_⟩;have hj:j<cs.length:=by rw[h1];exact (zS hx).1
   obtain ⟨y,hy,gu⟩:=h2 j cs[j] (zE hj);rw[hx]at hy;obtain rfl:x=y:=by simpa using hy
   exact dJ hm l0 R hR hL gu (.ca (w4 j cs[j] u (zE hj) hu))
 ·have h':CN m.own l0 c=some c':=by
   cases c<;>first|exact h|exact absurd ⟨_,rfl⟩ ht
  exact Or.inl (dJ hm l0 R hR hL h' hc)
theorem DA.ca {B:Nat} {S:Nat->Prop} {m:M} {c:AV} {v:Value} (h:DA m.w (safe B S m) c v):CA B S m c v:=by
 rcases h with h|⟨cs,vs,rfl,rfl,hl,hh⟩
 ·exact .one (.rd h)
 ·exact .agg cs vs ⟨hl,λ j x u hx hu => .rd (hh j x u hx hu)⟩
theorem DV.cv {B:Nat} {S:Nat->Prop} {m:M} {c:AV} {v:Value} (h:DV m.w (safe B S m) c v):CV B S m c v:=by
 rcases h with h|⟨cs,vs,rfl,rfl,hl,hh⟩
 ·exact .ca h.ca
 ·exact .l6 cs vs hl λ j x u hx hu=>(hh j x u hx hu).ca
theorem OJ : ∀ {cs:List AV},CD cs -> ∀ (j:Nat) (c:AV),cs[j]? = some c->A1 c
 | [],_,j,c,h=>by simp at h
 | x::r,hc,j,c,h=>by
  unfold CD at hc;cases j with
  | zero=>simp at h;subst h;exact hc.1
  | succ j=>exact OJ hc.2 j c (by simpa using h)
theorem aN : ∀ {cs:List (List AV)},FL cs -> ∀ (j:Nat) (c:List AV),cs[j]? = some c->CD c
 | [],_,j,c,h=>by simp at h
 | x::r,hc,j,c,h=>by
  unfold FL at hc;cases j with
  | zero=>simp at h;subst h;exact hc.1
  | succ j=>exact aN hc.2 j c (by simpa using h)
theorem Rd.clean {w:World} {R R':Bool->Nat->Prop} (hR : ∀ b,b<w.heap.size->R false b->R' false b) {c:AV} {v:Value} (h:Rd w R c v) (hc:A1 c):Rd w R' c v:=by
 induction h with
 | int k n=>exact .int k n
 | bool b=>exact .bool b
 | str s=>exact .str s
 | mb=>exact .mb
 | jl l a cap=>exact .jl l a cap
 | emp b a cap h=>exact .emp b a cap h
 | sl l es b o b9 cap u m8 hp h1 br hz q6 hr ih =>
  unfold A1 at hc;obtain ⟨rfl,hc⟩:=hc;obtain ⟨e,c,he,fp⟩:=YS m8 hp hz;have hb:b<w.heap.size:=SK (q6 0 e he 0 c fp);exact .sl false es b o b9 cap u m8 hp (hR b hb h1) br hz q6 λ i e he j c hj=>ih i e he j c hj (OJ (aN hc i e he) j c hj)
theorem DA.clean {w:World} {R R':Bool->Nat->Prop} (hR : ∀ b,b<w.heap.size->R false b->R' false b) {c:AV} {v:Value} (h:DA w R c v) (hc:A1 c):DA w R' c v:=by
 rcases h with h|⟨cs,vs,rfl,rfl,hl,hh⟩
 ·exact Or.inl (h.clean hR hc)
 ·unfold A1 at hc
  exact Or.inr ⟨cs,vs,rfl,rfl,hl,λ j x u hx hu=>(hh j x u hx hu).clean hR (OJ hc j x hx)⟩
theorem DV.clean {w:World} {R R':Bool->Nat->Prop} (hR : ∀ b,b<w.heap.size->R false b->R' false b) {c:AV} {v:Value} (h:DV w R c v) (hc:A1 c):DV w R' c v:=by
 rcases h with h|⟨cs,vs,rfl,rfl,hl,hh⟩
 ·exact Or.inl (h.clean hR hc)
 ·unfold A1 at hc
  exact Or.inr ⟨cs,vs,rfl,rfl,hl,λ j x u hx hu=>(hh j x u hx hu).clean hR (OJ hc j x hx)⟩
theorem fY {B:Nat} {S:Nat->Prop} {m:M} {c:AV} {v:Value} (h:CV B S m c v) (hc:A1 c):DV m.w (safe B S m) c v:=by
 have one : ∀ {c:AV} {v:Value},CC B S m c v->A1 c->Rd m.w (safe B S m) c v:=λ h hc=>by
  cases h with
  | rd h=>exact h
  | _=>unfold A1 at hc;exact hc.elim
 have ca : ∀ {c:AV} {v:Value},CA B S m c v->A1 c->DA m.w (safe B S m) c v:=λ h hc=>by
  cases h with
  | one h=>exact Or.inl (one h hc)
  | fn=>unfold A1 at hc;exact hc.elim
  | tk=>unfold A1 at hc;exact hc.elim
  | agg cs vs h =>
   unfold A1 at hc;exact Or.inr ⟨cs,vs,rfl,rfl,h.1,λ j x u hx hu=>one (h.2 j x u hx hu) (OJ hc j x hx)⟩
 cases h with
 | any v=>unfold A1 at hc;exact hc.elim
 | ca h=>exact Or.inl (ca h hc)
 | l6 as vs hl h =>
  unfold A1 at hc;exact Or.inr ⟨as,vs,rfl,rfl,hl,λ j x u hx hu=>ca (h j x u hx hu) (OJ hc j x hx)⟩
theorem cZ {f:Nat} {xs:Array Operand} {ts:Array TypeId} (n0:o.op = .call ⟨.value (.func f),xs,ts⟩) {w:World} (h:(callFunc f (xs.map a.eval)).run P w = .ok (.enter f (xs.map a.eval)) w):(execOp a.eval o).run P w = .ok (.enter f (xs.map a.eval)) w:=by
 simp [execOp,n0,resolve,Deferred.ofValue,Act.eval,invoke];exact h
theorem qI {C:Cl} (hC:GD P num C) (hm:BL B S w0 m) {f:Nat} {us:List Value} {as:List AV} (hl:us.length=as.length) (hx : ∀ (j:Nat) (v:Value) (c:AV),us[j]? = some v->as[j]? = some c->CV B S m c v) (hex : ∀ w:World,(callFunc (num f) us.toArray).run P w = .ok (.enter (num f) us.toArray) w->(execOp a.eval o).run P w = .ok (.enter (num f) us.toArray) w) {vs:List AV} {r:AV} (hv:as.mapM (CN m.own true)=some vs) (hr:C.pure f vs=some r):CK B S w0 P o a m (.val r):=by
 obtain ⟨gv,kn⟩:=PS _ hv;have kh : ∀ (j:Nat) (c:AV) (v:Value),vs[j]? = some c->us[j]? = some v->CA m.w.heap.size (safe B S m false) ⟨λ_ _=>none,AH.emp,m.w⟩ c v:=by
  intro j c v hc sn;have dv:j<as.length:=by rw[<-hl];exact (zS sn).1
  obtain ⟨y,hy,gu⟩:=kn j as[j] (zE dv);rw[hc]at hy;obtain rfl:c=y:=by simpa using hy
  have w5:=hx j v as[j] sn (zE dv);have sf:=dJ hm true (safe m.w.heap.size (safe B S m false) ⟨λ_ _=>none,AH.emp,m.w⟩) (λ l b hb ya=>by
   cases l with
   | false=>exact .inl ⟨ya,hb⟩
   | true=>exact .inr (.inr ⟨rfl,hb⟩)) (λ s t g jx hg=>by
   obtain ⟨_,arr,e,hh⟩:=hm.ge jx hg;exact .inr (.inr ⟨rfl,(Array.getElem?_eq_some_iff.1 hh).1⟩)) gu w5
  exact DA.ca (m:=⟨λ_ _=>none,AH.emp,m.w⟩) sf
 have fq:=hC.pure f vs r hr (safe B S m false) m.w us (by rw[<-gv];exact hl.symm) kh;intro K Q hK;unfold Oper.wp;rw[hex _ (hC.tj f vs r hr _ _)];refine Calls.mono fq λ e w' ⟨u,ja,iz,w5,q6⟩ => ?_
 subst ja;obtain ⟨mj,gd⟩:=grow hm iz;refine hK u ⟨m.ν,m.own,w'⟩ rfl mj gd ?_;refine DV.cv (m:=⟨m.ν,m.own,w'⟩) ((fY w5 q6).clean (λ b hb ya => ?_) q6);rcases ya with ⟨h1,h2⟩|⟨h1,_⟩|⟨h1,_⟩
 ·exact gd.Ab false b h2 h1
 ·refine .inr (.inl ⟨Nat.le_trans hm.size h1,λ s t jx hg => ?_⟩)
  obtain ⟨b',m7⟩:=Option.isSome_iff_exists.1 jx;obtain ⟨_,arr,e,hh⟩:=hm.ge ⟨b',m7⟩ hg;have:=(Array.getElem?_eq_some_iff.1 hh).1
  omega
 ·cases h1
theorem qH {C:Cl} (hC:GD P num C) (hm:BL B S w0 m) (hs:CF B S m ρ a.eval) {f:Nat} {xs:Array Operand} {o8:List AR} (he:DS xs.toList o8=true) (hex : ∀ w:World,(callFunc (num f) (xs.map a.eval)).run P w = .ok (.enter (num f) (xs.map a.eval)) w->(execOp a.eval o).run P w = .ok (.enter (num f) (xs.map a.eval)) w) {vs:List AV} {r:AV} (hv:(o8.map ρ).mapM (CN m.own true)=some vs) (hr:C.pure f vs=some r):CK B S w0 P o a m (.val r):=by
 obtain ⟨hl,hx⟩:=TP hs he;have gf:(xs.map a.eval)=(xs.toList.map a.eval).toArray:=by cases xs;simp
 rw[gf]at hex;refine qI hC hm (us:=xs.toList.map a.eval) (as:=o8.map ρ) (by simp [hl]) (λ j v c h1 h2 => ?_) hex hv hr;rw[List.getElem?_map]at h1 h2;cases kp:xs.toList[j]? with
 | none=>simp [kp]at h1
 | some x =>
  cases oh:o8[j]? with
  | none=>simp [oh]at h2
  | some y =>
   simp only[kp,oh,Option.map_some,Option.some.injEq]at h1 h2;subst h1 h2;exact hx j x y kp oh
theorem Vf {C:Cl} (hC:GD P num C) (hm:BL B S w0 m) (hs:CF B S m ρ a.eval) {f:Nat} {o8:List AR} (h:BA P num o.op (.call f o8)=true) {vs:List AV} {r:AV} (hv:(o8.map ρ).mapM (CN m.own true)=some vs) (hr:C.pure f vs=some r):CK B S w0 P o a m (.val r):=by
 obtain ⟨xs,ts,n0,he⟩:=jE h;exact qH hC hm hs he (λ w h=>cZ n0 h) hv hr
theorem qE {C:Cl} (hC:GD P num C) (hm:BL B S w0 m) (hs:CF B S m ρ a.eval) {f:Nat} {o8:List AR} (h:BA P num o.op (.e9 f o8)=true) {r:AV} {n9:AH} (hr:C.ic f (o8.map ρ) m.own=some (r,n9)):CK B S w0 P o a m (.ea r n9):=by
 obtain ⟨xs,ts,n0,he⟩:=Afu h;obtain ⟨hl,hx⟩:=TP hs he;have gf:(xs.map a.eval)=(xs.toList.map a.eval).toArray:=by cases xs;simp
 have fq:=hC.ic f (o8.map ρ) m.own r n9 hr B S w0 m (xs.toList.map a.eval) rfl hm (by simp [hl]) (λ j c v hc hv=>by
  rw[List.getElem?_map]at hc hv;cases kp:xs.toList[j]? with
  | none=>simp [kp]at hv
  | some x =>
   cases oh:o8[j]? with
   | none=>simp [oh]at hc
   | some y =>
    simp [kp]at hv;simp [oh]at hc;subst hv hc;exact hx j x y kp oh)
 intro K Q hK;unfold Oper.wp;rw[cZ n0 (hC.ow f _ _ _ hr _ _),gf];refine Calls.mono fq λ e w' ⟨u,m',ja,hw,m6,mj,gd,w5⟩ => ?_
 subst ja hw;exact hK u m' m6 mj gd w5
theorem To (hm:BL B S w0 m) {w':World} (hb:Below m.w.heap.size m.w w') (s:Nat) (b:DM) (gg:Option Nat) (hz : ∀ x∈b.es,x.length=b.b9)
  (hg:match gg with|none=>b.es=[]|some g=>m.w.heap.size<=g /\ ∃ arr e,w'.heap[g]? = some (.cells arr e (0,0)) /\ ∀ i cs,b.es[i]? = some cs -> ∀ j c,cs[j]? = some c -> ∃ u,arr[i*b.b9+j]? = some u/\CC B S ⟨l7 m s gg,m.own.put s ((m.own s).new b),w'⟩ c u) :
  BL B S w0 ⟨l7 m s gg,m.own.put s ((m.own s).new b),w'⟩/\C1 B S m ⟨l7 m s gg,m.own.put s ((m.own s).new b),w'⟩:=by
 have hν : ∀ s' t',live m s' t'->l7 m s gg s' t'=m.ν s' t':=λ s' t' hl=>by
  unfold l7;rw[if_neg];rintro ⟨rfl,rfl⟩
  exact cI hm _ hl
 have nh : ∀ g,gg=some g->m.w.heap.size<=g:=λ g e=>by subst e;exact hg.1
 have he:C1 B S m ⟨l7 m s gg,m.own.put s ((m.own s).new b),w'⟩:=by
  refine T5 hm hb.size (λ k hk _=>hb.block k hk) (λ s' => ?_) (λ s' t' b' ht m7 => ?_) (λ s' t' g hl fh m9 => ?_)
  ·rw[KF];split
   ·rename_i h;subst h;omega
   ·exact Nat.le_refl _
  ·rw[FO]at m7
   rw[if_neg (by rintro ⟨rfl,rfl⟩;omega)]at m7;refine ⟨b',m7,rfl,hν s' t' ⟨b',m7⟩,λ g ar e' fh ha=>⟨ar,?_,rfl⟩⟩;exact (hb.block g (Array.getElem?_eq_some_iff.1 ha).1).trans ha
  ·obtain ⟨b',m7⟩:=hl
   rw[FO]at m7;by_cases h:s'=s/\t'=m.own.g8 s
   ·simp only[l7,if_pos h]at fh
    have:=nh g fh
    omega
   ·rw[if_neg h]at m7
    exact ⟨s',t',⟨b',m7⟩,by rw[<-hν s' t' ⟨b',m7⟩];exact fh⟩
 refine ⟨⟨hm.below.trans (hb.mono hm.size),Nat.le_trans hm.size hb.size,λ s' t' ht => ?_,λ s' t' b' m7 => ?_,λ s1 t1 s2 t2 b1 b2 g h1 h2 g1 g2 => ?_⟩,he⟩
 ·rw[KF]at ht
  rw[FO,if_neg]
  ·refine hm.fresh s' t' ?_
   split at ht
   ·rename_i h;subst h;omega
   ·exact ht
  ·rintro ⟨rfl,rfl⟩
   simp at ht;omega
 ·rw[FO]at m7
  by_cases h:s'=s/\t'=m.own.g8 s
  ·rw[if_pos h]at m7
   obtain rfl:b=b':=by simpa using m7
   refine ⟨hz,?_⟩;show match l7 m s gg s' t' with|none=>_|some g=>_
   rw[show l7 m s gg s' t'=gg by simp [l7,h]];cases gg with
   | none=>exact hg
   | some g=>exact ⟨Nat.le_trans hm.size hg.1,hg.2⟩
  ·rw[if_neg h]at m7
   obtain ⟨h1,h2⟩:=hm.e7 s' t' b' m7;refine ⟨h1,?_⟩;show match l7 m s gg s' t' with|none=>_|some g=>_
   rw[hν s' t' ⟨b',m7⟩];cases hv:m.ν s' t' with
   | none=>rw[hv]at h2;exact h2
   | some g =>
    rw[hv]at h2;obtain ⟨h3,ar,e',h4,h5⟩:=h2;refine ⟨h3,ar,e',(hb.block g (Array.getElem?_eq_some_iff.1 h4).1).trans h4,λ i cs hi j c hj => ?_⟩;obtain ⟨u,hu,w4⟩:=h5 i cs hi j c hj;exact ⟨u,hu,he.cc w4⟩
 ·rw[FO]at h1 h2
  have lt : ∀ s' t' b',m.own.get s' t'=some b'->l7 m s gg s' t'=some g->g<m.w.heap.size:=λ s' t' b' m7 fh=>by
   rw[hν s' t' ⟨b',m7⟩]at fh;obtain ⟨_,ar,e',h4⟩:=hm.ge ⟨b',m7⟩ fh;exact (Array.getElem?_eq_some_iff.1 h4).1
  have at_ : ∀ s' t',s'=s/\t'=m.own.g8 s->l7 m s gg s' t'=some g->m.w.heap.size<=g:=λ s' t' h fh=>by
   simp only[l7,if_pos h]at fh;exact nh g fh
  by_cases p1:s1=s/\t1=m.own.g8 s<;>by_cases p2:s2=s/\t2=m.own.g8 s
  ·exact ⟨p1.1.trans p2.1.symm,p1.2.trans p2.2.symm⟩
  ·rw[if_neg p2]at h2
   have:=lt s2 t2 b2 h2 g2
   have:=at_ s1 t1 p1 g1
   omega
  ·rw[if_neg p1]at h1
   have:=lt s1 t1 b1 h1 g1
   have:=at_ s2 t2 p2 g2
   omega
  ·rw[if_neg p1]at h1
   rw[if_neg p2]at h2;exact hm.inj s1 t1 s2 t2 b1 b2 g h1 h2 (by rw[<-hν s1 t1 ⟨b1,h1⟩];exact g1) (by rw[<-hν s2 t2 ⟨b2,h2⟩];exact g2)
theorem Vk {C:Cl} (hC:GD P num C) (hm:BL B S w0 m) (hs:CF B S m ρ a.eval) {s f:Nat} {o8:List AR} (h:BA P num o.op (.u9 s f o8)=true) {vs:List AV} (hv:(o8.map ρ).mapM (O5 m.own true)=some vs) {z:Nat} {es:List (List AV)} (hr:OE (C.ic f vs AH.emp)=some (z,es)) :
  CK B S w0 P o a m (.new s ⟨z,es⟩ (λ t => .row s t z 0 es.length)):=by
 obtain ⟨xs,ts,n0,he⟩:=jE (Afw h);obtain ⟨s0,t0,o',b0,Ny,o7,rfl,q6⟩:=Tn hr;obtain ⟨hl,hx⟩:=TP hs he;obtain ⟨gv,kn⟩:=PS _ hv;have gf:(xs.map a.eval)=(xs.toList.map a.eval).toArray:=by cases xs;simp
 have kh : ∀ (j:Nat) (c:AV) (v:Value),vs[j]? = some c->(xs.toList.map a.eval)[j]? = some v->CV m.w.heap.size (safe B S m false) ⟨λ_ _=>none,AH.emp,m.w⟩ c v:=by
  intro j c v hc sn;rw[List.getElem?_map]at sn;cases kp:xs.toList[j]? with
  | none=>simp [kp]at sn
  | some x =>
   simp [kp]at sn;subst sn;have dv:j<o8.length:=by rw[<-hl];exact (zS kp).1
   obtain ⟨y,hy,gu⟩:=kn j (ρ o8[j]) (by rw[List.getElem?_map,zE dv];rfl);rw[hc]at hy;obtain rfl:c=y:=by simpa using hy
   have w5:=hx j x o8[j] kp (zE dv);have hN:(ρ o8[j] = .nil/\c = .nil)\/CN m.own true (ρ o8[j])=some c:=by
    cases e:ρ o8[j] with
    | nil=>rw[e]at gu;exact .inl ⟨rfl,(Option.some.inj gu).symm⟩
    | _=>rw[e]at gu;exact .inr gu
   rcases hN with ⟨e1,rfl⟩|gu
   ·rw[e1]at w5
    rw[V9 w5];exact .ca (.one .nil)
   have sf:=dJ hm true (safe m.w.heap.size (safe B S m false) ⟨λ_ _=>none,AH.emp,m.w⟩) (λ l b hb ya=>by
    cases l with
    | false=>exact .inl ⟨ya,hb⟩
    | true=>exact .inr (.inr ⟨rfl,hb⟩)) (λ s t g jx hg=>by
    obtain ⟨_,arr,e,hh⟩:=hm.ge jx hg;exact .inr (.inr ⟨rfl,(Array.getElem?_eq_some_iff.1 hh).1⟩)) gu w5
   exact .ca (DA.ca (m:=⟨λ_ _=>none,AH.emp,m.w⟩) sf)
 have Ew:BL m.w.heap.size (safe B S m false) m.w ⟨λ_ _=>none,AH.emp,m.w⟩:=⟨Below.refl _ _,Nat.le_refl _,λ_ _ _=>rfl,(λ s t b h=>by cases h),(λ_ _ _ _ _ _ _ h=>by cases h)⟩;have fq:=hC.ic f vs AH.emp _ o' Ny m.w.heap.size (safe B S m false) m.w ⟨λ_ _=>none,AH.emp,m.w⟩ (xs.toList.map a.eval) rfl Ew (by rw[<-gv];simp [hl]) kh;intro K Q hK;unfold Oper.wp;rw[cZ n0 (hC.ow f _ _ _ Ny _ _),gf];refine Calls.mono fq λ e w' ⟨u,m',ja,hw,m6,mj,Nn,w5⟩ => ?_
 subst ja hw;have iz:Below m.w.heap.size m.w m'.w:=mj.below;rw[<-m6]at o7;obtain ⟨hz,nb⟩:=mj.e7 s0 t0 b0 o7;obtain ⟨ad,cap,rfl,ht,er,oc,ha,hb⟩:=WA w5;obtain ⟨jk,fi⟩:=hb b0 o7;subst jk;have hold : ∀ s t g,live m s t->m.ν s t=some g->g<m.w.heap.size:=λ s t g jx hg=>by
  obtain ⟨_,arr,e,hh⟩:=hm.ge jx hg;exact (Array.getElem?_eq_some_iff.1 hh).1
 have Bb : ∀ s' t' g,live ⟨l7 m s (m'.ν s0 t0),m.own.put s ((m.own s).new ⟨b0.b9,b0.es⟩),m'.w⟩ s' t'->l7 m s (m'.ν s0 t0) s' t'=some g->g<m.w.heap.size\/m'.ν s0 t0=some g:=λ s' t' g jx hg=>by
  obtain ⟨b',m7⟩:=jx;rw[FO]at m7;by_cases m5:s'=s/\t'=m.own.g8 s
  ·simp only[l7,if_pos m5]at hg
   exact Or.inr hg
  ·rw[if_neg m5]at m7
   simp only[l7,if_neg m5]at hg;exact Or.inl (hold s' t' g ⟨b',m7⟩ hg)
 have hR : ∀ b,b<m'.w.heap.size->safe m.w.heap.size (safe B S m false) m' false b->safe B S ⟨l7 m s (m'.ν s0 t0),m.own.put s ((m.own s).new ⟨b0.b9,b0.es⟩),m'.w⟩ false b:=λ b hbs ya=>by
  rcases ya with ⟨h1,h2⟩|⟨h1,h2⟩|⟨h1,_⟩
  ·rcases h1 with h1|⟨h1,h3⟩|⟨h1,_⟩
   ·exact .inl h1
   ·refine .inr (.inl ⟨h1,λ s' t' jx hg => ?_⟩)
    obtain ⟨b',m7⟩:=Option.isSome_iff_exists.1 jx;have u7:=m7;rw[FO]at u7;by_cases m5:s'=s/\t'=m.own.g8 s
    ·simp only[l7,if_pos m5]at hg
     rw[hg]at nb;have:=nb.1
     omega
    ·rw[if_neg m5]at u7
     simp only[l7,if_neg m5]at hg;exact h3 s' t' (by rw[u7];rfl) hg
   ·cases h1
  ·refine .inr (.inl ⟨Nat.le_trans hm.size h1,λ s' t' jx hg => ?_⟩)
   rcases Bb s' t' b (Option.isSome_iff_exists.1 jx) hg with h3|h3
   ·omega
   ·exact h2 s0 t0 (by rw[o7];rfl) h3
  ·cases h1
 obtain ⟨ri,gd⟩:=To hm iz s ⟨b0.b9,b0.es⟩ (m'.ν s0 t0) hz (by
  cases hν:m'.ν s0 t0 with
  | none=>rw[hν]at nb;exact nb
  | some g =>
   rw[hν]at nb hR;obtain ⟨h1,arr,e,h2,h3⟩:=nb;refine ⟨h1,arr,e,h2,λ i cs hi j c hj => ?_⟩;obtain ⟨u,hu,w4⟩:=h3 i cs hi j c hj;refine ⟨u,hu,.rd ?_⟩;have xi:=OJ (aN q6 i cs hi) j c hj;have mo:Rd m'.w (safe m.w.heap.size (safe B S m false) m') c u:=by
    cases w4 with
    | rd h=>exact h
    | _=>unfold A1 at xi;exact xi.elim
   exact mo.clean hR xi)
 refine hK _ ⟨l7 m s (m'.ν s0 t0),m.own.put s ((m.own s).new ⟨b0.b9,b0.es⟩),m'.w⟩ rfl ri gd (.ca (.one (.row s (m.own.g8 s) b0.b9 0 b0.es.length ad cap (by show m.own.g8 s<AH.g8 (m.own.put s _) s;rw[KF,if_pos rfl];omega) er oc ha λ b1 ix => ?_)));have Ee:(m.own.put s ((m.own s).new ⟨b0.b9,b0.es⟩)).get s (m.own.g8 s)=some b1:=ix;rw[FO,if_pos ⟨rfl,rfl⟩]at Ee;obtain rfl:=Option.some.inj Ee;refine ⟨rfl,?_⟩;rcases fi with h0|⟨g,arr,e,hg,lg,hh,hle⟩
 ·exact .inl h0
 ·exact .inr ⟨g,arr,e,by simp [l7,hg],lg,hh,hle⟩
theorem pS {p:Bool} {f g:Nat} {cs:List AV} {v:Value} (h:CV B S m (.fn p f g cs) v) (hp:p=false\/cs=[]) : ∃ vs:List Value,v = .func (.func g) #[] vs.toArray/\CL B S m cs vs:=by
 cases h with
 | ca h=>cases h with
  | one h=>cases h with
   | rd h=>cases h
  | fn p f g cs vs hp h=>exact ⟨vs,rfl,h⟩
  | tk f g cs vs m8 h =>
   rcases hp with hp|hp
   ·cases hp
   ·exact absurd hp m8
theorem Xf {f g:Nat} {cs:List AV} {v:Value} (h:CV B S m (.fn true f g cs) v) (m8:cs≠[]) : ∃ vs:List Value,v = .func (.func g) #[.agg vs.toArray] #[]/\CL B S m cs vs:=by
 cases h with
 | ca h=>cases h with
  | one h=>cases h with
   | rd h=>cases h
  | fn p f g cs vs hp h=>exact absurd (hp rfl) m8
  | tk f g cs vs m8 h=>exact ⟨vs,rfl,h⟩
theorem xI {f:Nat} {x:Operand} {xs:Array Operand} {ts:Array TypeId} {vs:Array Value} (n0:o.op = .call ⟨.value x,xs,ts⟩) (hx:a.eval x = .func (.func f) #[] vs) {w:World} (h:(callFunc f (xs.map a.eval++vs)).run P w = .ok (.enter f (xs.map a.eval++vs)) w):(execOp a.eval o).run P w = .ok (.enter f (xs.map a.eval++vs)) w:=by
 simp [execOp,n0,resolve,Deferred.ofValue,hx,invoke];exact h
theorem Vl {C:Cl} (hC:GD P num C) (hm:BL B S w0 m) (hs:CF B S m ρ a.eval) {x':AR} {o8:List AR} (h:BA P num o.op (.n8 x' o8)=true) {f:Nat} {cs:List AV} (hf:ρ x' = .fn false f (num f) cs) {r:AV} {n9:AH} (hr:C.ic f (o8.map ρ++cs) m.own=some (r,n9)):CK B S w0 P o a m (.ea r n9):=by
 obtain ⟨x,xs,ts,n0,mq,he⟩:=jF h;obtain ⟨hl,hx⟩:=TP hs he;obtain ⟨vs,hv,q6⟩:=pS (hf ▸ hs x x' mq) (.inl rfl);have gf:(xs.map a.eval++vs.toArray)=(xs.toList.map a.eval++vs).toArray:=by cases xs;simp
 have fq:=hC.ic f (o8.map ρ++cs) m.own r n9 hr B S w0 m (xs.toList.map a.eval++vs) rfl hm (by simp [hl,q6.1]) (λ j c v hc hv=>by
  by_cases hj:j<o8.length
  ·rw[List.getElem?_append_left (by simpa using hj),List.getElem?_map]at hc
   rw[List.getElem?_append_left (by simpa [hl] using hj),List.getElem?_map]at hv;have Nz:j<xs.toList.length:=by rw[hl];exact hj
   rw[zE hj]at hc;rw[zE Nz]at hv;simp only[Option.map_some,Option.some.injEq]at hc hv;subst hc hv;exact hx j _ _ (zE Nz) (zE hj)
  ·rw[List.getElem?_append_right (by simpa using hj),List.length_map]at hc
   rw[List.getElem?_append_right (by simpa [hl] using hj),List.length_map,hl]at hv;exact .ca (.one (q6.2 _ c v hc hv)))
 intro K Q hK;unfold Oper.wp;rw[xI n0 hv (hC.ow f _ _ _ hr _ _),gf];refine Calls.mono fq λ e w' ⟨u,m',ja,hw,m6,mj,gd,w5⟩ => ?_
 subst ja hw;exact hK u m' m6 mj gd w5
theorem Vh {C:Cl} (hC:GD P num C) (hm:BL B S w0 m) (hs:CF B S m ρ a.eval) {x':AR} {o8:List AR} (h:BA P num o.op (.n8 x' o8)=true) {f:Nat} (hf:ρ x' = .fn true f (num f) []) {vs:List AV} {r:AV} (hv:(o8.map ρ).mapM (CN m.own true)=some vs) (hr:C.pure f vs=some r):CK B S w0 P o a m (.val r):=by
 obtain ⟨x,xs,ts,n0,mq,he⟩:=jF h;obtain ⟨us,hu,q6⟩:=pS (hf ▸ hs x x' mq) (.inr rfl);have hu0:us=[]:=List.eq_nil_of_length_eq_zero (by rw[<-q6.1];rfl);subst hu0;refine qH hC hm hs he (λ w h => ?_) hv hr;have:=xI (P:=P) (w:=w) n0 hu (by simpa using h)
 simpa using this
theorem AhE {f:Nat} {x:Operand} {xs:Array Operand} {ts:Array TypeId} {u:Value} (n0:o.op = .call ⟨.value x,xs,ts⟩) (hx:a.eval x = .func (.func f) #[u] #[]) {w:World} (h:(callFunc f (#[u]++xs.map a.eval)).run P w = .ok (.enter f (#[u]++xs.map a.eval)) w):(execOp a.eval o).run P w = .ok (.enter f (#[u]++xs.map a.eval)) w:=by
 simp [execOp,n0,resolve,Deferred.ofValue,hx,invoke];exact h
theorem Vg {C:Cl} (hC:GD P num C) (hm:BL B S w0 m) (hs:CF B S m ρ a.eval) {x':AR} {o8:List AR} (h:BA P num o.op (.n8 x' o8)=true) {f:Nat} {c:AV} {cs:List AV} (hf:ρ x' = .fn true f (num f) (c::cs)) {vs:List AV} {r:AV} (hv:(AV.agg (c::cs)::o8.map ρ).mapM (CN m.own true)=some vs) (hr:C.pure f vs=some r):CK B S w0 P o a m (.val r):=by
 obtain ⟨x,xs,ts,n0,mq,he⟩:=jF h;obtain ⟨us,hu,q6⟩:=Xf (hf ▸ hs x x' mq) (by simp);obtain ⟨hl,hx⟩:=TP hs he;have gf:(#[Value.agg us.toArray]++xs.map a.eval)=(Value.agg us.toArray::xs.toList.map a.eval).toArray:=by cases xs;simp
 refine qI hC hm (us:=Value.agg us.toArray::xs.toList.map a.eval) (as:=AV.agg (c::cs)::o8.map ρ) (by simp [hl]) (λ j v c' h1 h2 => ?_) (λ w h=>by
  rw[<-gf]at h ⊢;exact AhE n0 hu h) hv hr
 cases j with
 | zero =>
  simp only[List.getElem?_cons_zero,Option.some.injEq]at h1 h2;subst h1 h2;exact .ca (.agg _ _ q6)
 | succ j =>
  rw[List.getElem?_cons_succ,List.getElem?_map]at h1 h2;cases kp:xs.toList[j]? with
  | none=>simp [kp]at h1
  | some x =>
   cases oh:o8[j]? with
   | none=>simp [oh]at h2
   | some y =>
    simp only[kp,oh,Option.map_some,Option.some.injEq]at h1 h2;subst h1 h2;exact hx j x y kp oh
theorem Rd.to1 {w:World} {R R':Bool->Nat->Prop} (hR : ∀ l b,b<w.heap.size->R l b -> ∀ l',R' l' b) {c:AV} {v:Value} (h:Rd w R c v) (hq:FR c=true):Rd w R' (XL c) v:=by
 cases h with
 | int k n=>exact .int k n
 | bool b=>exact .bool b
 | str s=>simp [FR]at hq
 | mb=>simp [FR]at hq
 | emp=>simp [FR]at hq
 | jl l a cap=>exact .jl false a cap
 | sl l es b o b9 cap u m8 hp h1 br hz q6 hr =>
  obtain ⟨e,c,he,fp⟩:=YS m8 hp hz;have hb:b<w.heap.size:=SK (q6 0 e he 0 c fp);exact .sl false es b o b9 cap u m8 hp (hR l b hb h1 false) br hz q6 λ i e he j c hj=>(hr i e he j c hj).mono (λ l b hb h=>hR l b hb h l) (λ_ _ _ _=>rfl)
theorem Rd.ym {w:World} {R R':Bool->Nat->Prop} (hR : ∀ b,b<w.heap.size->R false b->R' true b) {c:AV} {v:Value} (h:Rd w R c v) (hc:A1 c) (hf:XU c):Rd w R' (YZ c) v:=by
 cases h with
 | int k n=>exact .int k n
 | bool b=>exact .bool b
 | str s=>exact hf.elim
 | mb=>exact hf.elim
 | emp=>exact hf.elim
 | jl l a cap=>exact .jl true a cap
 | sl l es b o b9 cap u m8 hp h1 br hz q6 hr =>
  unfold A1 at hc;obtain ⟨rfl,hc⟩:=hc;obtain ⟨e,c,he,fp⟩:=YS m8 hp hz;have hb:b<w.heap.size:=SK (q6 0 e he 0 c fp);refine .sl true es b o b9 cap u m8 hp (hR b hb h1) br hz q6 λ i e he j c hj => ?_
  have Ko:=hf e (zM he) c (zM hj);have Bg:=hr i e he j c hj;generalize u i j=vv at Bg ⊢;cases Bg<;>first|exact .int _ _|exact .bool _|(simp [vR]at Ko)
theorem jL : ∀ l:List AV,K1 l=l.map GV
 | []=>by simp [K1]
 | c::r=>by rw[K1,jL r];rfl
theorem uV : ∀ l:List (List AV),YX l=l.map λ e=>e.map GV
 | []=>by simp [YX]
 | c::r=>by rw[YX,uV r,jL];rfl
theorem Rd.yn {w:World} {R R':Bool->Nat->Prop} (hR : ∀ b,b<w.heap.size->R false b->R' true b) {c:AV} {v:Value} (h:Rd w R c v):A1 c->Rd w R' (GV c) v:=by
 induction h with
 | int k n=>intro _;exact .int k n
 | bool b=>intro _;exact .bool b
 | str s=>intro _;exact .str s
 | mb=>intro _;exact .mb
 | emp b a cap h=>intro _;exact .emp b a cap h
 | jl l a cap=>intro _;exact .jl true a cap
 | sl l es b o b9 cap u m8 hp h1 br hz q6 hr ih =>
  intro hc;unfold A1 at hc;obtain ⟨rfl,hc⟩:=hc;obtain ⟨e,c,he,fp⟩:=YS m8 hp hz;have hb:b<w.heap.size:=SK (q6 0 e he 0 c fp);have db : ∀ (i:Nat) (e':List AV),(es.map λ e:List AV=>e.map GV)[i]? = some e' -> ∃ e,es[i]? = some e/\e'=e.map GV:=λ i e' h=>by
   rw[List.getElem?_map]at h;cases hi:es[i]? with
   | none=>simp [hi]at h
   | some e=>exact ⟨e,rfl,by simpa [hi] using h.symm⟩
  have ub : ∀ (e:List AV) (j:Nat) (c':AV),(e.map GV)[j]? = some c' -> ∃ c,e[j]? = some c/\c'=GV c:=λ e j c' h=>by
   rw[List.getElem?_map]at h;cases hi:e[j]? with
   | none=>simp [hi]at h
   | some c=>exact ⟨c,rfl,by simpa [hi] using h.symm⟩
  have key:=Rd.sl (w:=w) (R:=R') true (es.map λ e:List AV=>e.map GV) b o b9 cap u (by simpa using m8) hp (hR b hb h1) (by simpa using br)
   (λ e' ja=>by
    obtain ⟨e,he,rfl⟩:=List.mem_map.1 ja;rw[List.length_map];exact hz e he)
   (λ i e' hi j c' hj=>by
    obtain ⟨e,he,rfl⟩:=db i e' hi;obtain ⟨c,zd,rfl⟩:=ub e j c' hj;exact q6 i e he j c zd)
   (λ i e' hi j c' hj=>by
    obtain ⟨e,he,rfl⟩:=db i e' hi;obtain ⟨c,zd,rfl⟩:=ub e j c' hj;exact ih i e he j c zd (OJ (aN hc i e he) j c zd))
  rw[List.length_map]at key;rw[GV,uV];exact key
theorem Vj {C:Cl} (hC:GD P num C) (hm:BL B S w0 m) (hs:CF B S m ρ a.eval) {f:Nat} {o8:List AR} (h:BA P num o.op (.o0 f o8)=true) (hq:(o8.map ρ).all dq=true) {r:AV} (hr:C.pure f ((o8.map ρ).map wk)=some r) (Jx:JM r\/VV r):CK B S w0 P o a m (.val (K2 r)):=by
 obtain ⟨xs,ts,n0,he⟩:=jE (Afv h);obtain ⟨hl,hx⟩:=TP hs he;have gf:(xs.map a.eval)=(xs.toList.map a.eval).toArray:=by cases xs;simp
 have hR : ∀ l b,b<m.w.heap.size->safe B S m l b -> ∀ l',safe m.w.heap.size (safe B S m true) ⟨λ_ _=>none,AH.emp,m.w⟩ l' b:=λ l b hb h l' => .inl ⟨kW h,hb⟩
 have hcell : ∀ (c:AV) (v:Value),CC B S m c v->FR c=true->Rd m.w (safe m.w.heap.size (safe B S m true) ⟨λ_ _=>none,AH.emp,m.w⟩) (XL c) v:=λ c v hc hd=>by
  cases hc with
  | rd hr=>exact hr.to1 hR hd
  | nil=>exact .jl false none 0
  | row=>simp [FR]at hd
  | ptr=>simp [FR]at hd
  | u6=>simp [FR]at hd
 have kh : ∀ (j:Nat) (c:AV) (v:Value),((o8.map ρ).map wk)[j]? = some c->(xs.toList.map a.eval)[j]? = some v->CA m.w.heap.size (safe B S m true) ⟨λ_ _=>none,AH.emp,m.w⟩ c v:=by
  intro j c v hc sn;rw[List.getElem?_map,List.getElem?_map]at hc;rw[List.getElem?_map]at sn;cases kp:xs.toList[j]? with
  | none=>simp [kp]at sn
  | some x =>
   cases oh:o8[j]? with
   | none=>simp [oh]at hc
   | some y =>
    simp [kp]at sn;simp [oh]at hc;subst sn hc;have w5:=hx j x y kp oh;have hd:dq (ρ y)=true:=List.all_eq_true.1 hq _ (List.mem_map_of_mem (zM oh));generalize ρ y=cy at w5 hd ⊢;generalize a.eval x=vx at w5 ⊢;cases w5 with
    | any=>simp [dq,FR]at hd
    | l6=>simp [dq,FR]at hd
    | ca oz =>
     cases oz with
     | one vt =>
      have ki:FR cy=true/\wk cy=XL cy:=by
       cases vt with
       | rd hr=>cases hr<;>exact ⟨hd,rfl⟩
       | _=>exact ⟨hd,rfl⟩
      rw[ki.2];exact .one (.rd (hcell _ _ vt ki.1))
     | agg cs vs q6 =>
      refine .agg (cs.map XL) vs ⟨by simpa using q6.1,λ k c' v' z9 og => ?_⟩;rw[List.getElem?_map]at z9;cases pc:cs[k]? with
      | none=>simp [pc]at z9
      | some c0 =>
       simp [pc]at z9;subst z9;exact .rd (hcell c0 v' (q6.2 k c0 v' pc og) (List.all_eq_true.1 hd _ (zM pc)))
     | fn=>simp [dq,FR]at hd
     | tk=>simp [dq,FR]at hd
 have fq:=hC.pure f _ r hr (safe B S m true) m.w (xs.toList.map a.eval) (by simp [hl]) kh;intro K Q hK;unfold Oper.wp;rw[cZ n0 (hC.tj f _ r hr _ _),gf];refine Calls.mono fq λ e w' ⟨u,ja,iz,w5,q6⟩ => ?_
 subst ja;obtain ⟨mj,gd⟩:=grow hm iz;refine hK u ⟨m.ν,m.own,w'⟩ rfl mj gd ?_;have iy : ∀ b,b<w'.heap.size->safe m.w.heap.size (safe B S m true) ⟨λ_ _=>none,AH.emp,w'⟩ false b->safe B S ⟨m.ν,m.own,w'⟩ true b:=λ b hb ya=>by
  rcases ya with ⟨h1,h2⟩|⟨h1,_⟩|⟨h1,_⟩
  ·exact gd.Ab true b h2 h1
  ·refine .inr (.inl ⟨Nat.le_trans hm.size h1,λ s t jx hg => ?_⟩)
   obtain ⟨b',m7⟩:=Option.isSome_iff_exists.1 jx;obtain ⟨_,arr,e,hh⟩:=hm.ge ⟨b',m7⟩ hg;have:=(Array.getElem?_eq_some_iff.1 hh).1
   omega
  ·cases h1
 by_cases kj:JM r
 ·rw[jM kj]
  rcases fY w5 q6 with sf|⟨cs,vs,rfl,_⟩
  ·rcases sf with mo|⟨cs,vs,rfl,rfl,gv,hh⟩
   ·have e1:yi r=YZ r/\XU r:=by cases mo<;>exact ⟨rfl,kj⟩
    rw[show B3.valOf (.val (yi r)) m.own=yi r from rfl,e1.1];exact .ca (.one (.rd (mo.ym iy q6 e1.2)))
   ·unfold A1 at q6
    refine .ca (.agg (cs.map YZ) vs ⟨by simpa using gv,λ k c' v' z9 og => ?_⟩);rw[List.getElem?_map]at z9;cases pc:cs[k]? with
    | none=>simp [pc]at z9
    | some c0 =>
     simp [pc]at z9;subst z9;exact .rd ((hh k c0 v' pc og).ym iy (OJ q6 k c0 pc) (kj c0 (zM pc)))
  ·exact kj.elim
 ·rw[uW kj]
  have hd:=Jx.resolve_left kj;rcases fY w5 q6 with sf|⟨cs,vs,rfl,_⟩
  ·rcases sf with mo|⟨cs,vs,rfl,rfl,gv,hh⟩
   ·have e1:OR r=GV r:=by cases mo<;>rfl
    rw[show B3.valOf (.val (OR r)) m.own=OR r from rfl,e1];exact .ca (.one (.rd (mo.yn iy q6)))
   ·unfold A1 at q6
    rw[show B3.valOf (.val (OR (.agg cs))) m.own = .agg (K1 cs) from rfl,jL];refine .ca (.agg (cs.map GV) vs ⟨by simpa using gv,λ k c' v' z9 og => ?_⟩);rw[List.getElem?_map]at z9;cases pc:cs[k]? with
    | none=>simp [pc]at z9
    | some c0 =>
     simp [pc]at z9;subst z9;exact .rd ((hh k c0 v' pc og).yn iy (OJ q6 k c0 pc))
  ·exact hd.elim
end
end Go.e8
namespace Go.e8
open Go.RowKit
section
variable {B:Nat} {S:Nat->Prop} {w0:World} {m:M}
variable {P:Program} {num:Nat->Nat} {o:Oper} {a:Act} {ρ:AR->AV} {C:Cl} {c7:List Nat}
theorem Zj (hm:BL B S w0 m) (hs:CF B S m ρ a.eval) {mx:Bool} {o8:List AR} (h:BA P num o.op (.mm mx o8)=true) {v r:AV} {l:List AV} (hx:o8.map ρ=v::l) (hv:JY mx v l=some r):CK B S w0 P o a m (.val r):=by
 by_cases hi : ∃ k n,v = .int k n
 ·exact Zi hm hs h hx hv hi
 ·cases l with
  | cons u q =>
   simp only[JY]at hv;exfalso;cases v<;>first|(exact hi ⟨_,_,rfl⟩)|(simp [PX]at hv)
  | nil =>
   simp only[JY,Option.some.injEq]at hv;subst hv;obtain ⟨xs,ts,n0,he⟩:=uE h;cases o8 with
   | nil=>simp at hx
   | cons y yr =>
    simp only[List.map_cons,List.cons.injEq,List.map_eq_nil_iff]at hx;obtain ⟨rfl,rfl⟩:=hx;obtain ⟨xl⟩:=xs;cases xl with
    | nil=>simp [DS]at he
    | cons x xr =>
     simp only[DS,Bool.and_eq_true]at he;cases xr with
     | cons=>simp [DS]at he
     | nil =>
      refine EA hm (u:=a.eval x) ?_ (hs x y he.1);cases mx<;>simp [execOp,n0,resolve,invoke,builtin,Builtin.min_,Builtin.max_]
theorem tG (o:AH) (l:List Nat) (s t:Nat) (b:DM) (h:(o.o3 l).get s t=some b):o.get s t=some b:=by
 induction l with
 | nil=>exact h
 | cons x r ih =>
  unfold AH.get AH.o3 at h;by_cases hs:s=x
  ·simp [hs]at h
  ·simp only[if_neg hs]at h
   exact ih h
theorem Af1 {o:AH} {l:List Nat} {s t i j n:Nat} {cs:List AV} (h:(o.o3 l).px s t i j n=some cs):o.px s t i j n=some cs:=by
 unfold AH.px at *;cases hg:(o.o3 l).get s t with
 | none=>simp [hg]at h
 | some b =>
  rw[tG o l s t b hg];simpa [hg] using h
theorem Yk {o:AH} {l:List Nat} {v:AV} {es:List (List AV)} (h:EB (o.o3 l) v=some es):EB o v=some es:=by
 cases v with
 | da v=>cases v<;>exact h
 | row s t z off len =>
  simp only[EB]at h ⊢;cases hg:(o.o3 l).get s t with
  | none=>simp [hg]at h
  | some b =>
   rw[tG o l s t b hg];simpa [hg] using h
 | _=>exact h
theorem WU {α β:Type} {f g:α->Option β} (Np : ∀ x y,f x=some y->g x=some y) : ∀ {l:List α} {l':List β},l.mapM f=some l'->l.mapM g=some l'
 | [],l',h=>by simpa using h
 | x::r,l',h=>by
  simp only[List.mapM_cons,Option.bind_eq_bind,Option.pure_def]at h ⊢;cases hx:f x with
  | none=>simp [hx]at h
  | some y =>
   cases hr:r.mapM f with
   | none=>simp [hx,hr]at h
   | some r' =>
    simp [hx,hr]at h;simp [Np x y hx,WU Np hr,h]
theorem lM (o:AH) (l:List Nat) (b:Bool) : ∀ (d:Nat) (c c':AV),snap (o.o3 l) b d c=some c'->snap o b d c=some c'
 | 0,c,c',h=>by cases c<;>simp_all [snap]
 | d+1,c,c',h=>by
  cases c<;>first|(simp_all [snap];done)|skip
  rename_i s t z off len;simp only[snap]at h ⊢;cases he:EB (o.o3 l) (.row s t z off len) with
  | none=>simp [he]at h
  | some es =>
   simp only[he]at h;rw[Yk he];simp only[Option.map_eq_some_iff]at h ⊢;obtain ⟨es',h1,h2⟩:=h;exact ⟨es',WU (λ x y hx=>WU (lM o l b d) hx) h1,h2⟩
theorem xY (o:AH) (l:List Nat) (b:Bool) (c c':AV) (h:CN (o.o3 l) b c=some c'):CN o b c=some c':=by
 cases c<;>first|exact lM o l b 6 _ _ h|skip
 simp only[CN,Option.map_eq_some_iff]at h ⊢;obtain ⟨cs,h1,h2⟩:=h;exact ⟨cs,WU (lM o l b 6) h1,h2⟩
theorem Ah9 (o:AH) (l:List Nat) (b:Bool) (c c':AV) (h:O5 (o.o3 l) b c=some c'):O5 o b c=some c':=by
 rcases Classical.em (c = .nil) with rfl|hc
 ·exact h
 ·have e : ∀ o:AH,O5 o b c=CN o b c:=λ o=>by cases c<;>first|rfl|exact (hc rfl).elim
  rw[e]at h ⊢;exact xY o l b _ _ h
theorem Agc {o:AH} {l:List Nat} {b:Bool} {xs vs:List AV} (h:xs.mapM (O5 (o.o3 l) b)=some vs):xs.mapM (O5 o b)=some vs:=WU (Ah9 o l b) h
theorem Aga {o:AH} {l:List Nat} {b:Bool} {xs vs:List AV} (h:xs.mapM (CN (o.o3 l) b)=some vs):xs.mapM (CN o b)=some vs:=WU (xY o l b) h
theorem Aii {own n9:AH} {s t i j:Nat} {vs:List AV} (h:own.me s t i j vs=some n9):own.put s (n9 s)=n9:=by
 unfold AH.me at h;cases hg:own.get s t with
 | none=>simp [hg]at h
 | some b =>
  simp only[hg]at h;cases he:b.es[i]? with
  | none=>simp [he]at h
  | some cs =>
   simp only[he]at h;split at h
   ·obtain rfl:=Option.some.inj h
    rw[AH.l8]
   ·cases h
theorem Yi (hC:GD P num C) (hm:BL B S w0 m) (hs:CF B S m ρ a.eval) {Bp:DG} (m4:BA P num o.op Bp=true) {E:B3} (h:g6 C c7 ρ m.own Bp=some E):CK B S w0 P o a m E:=by
 cases Bp with
 | a9 x=>simp only[g6,Option.some.injEq]at h;subst h;exact Zk hm hs m4
 | w9 s z=>simp only[g6,Option.some.injEq]at h;subst h;exact Zq hm m4
 | pick c x y =>
  simp only[g6]at h;split at h
  ·rename_i hc;simp only[Option.some.injEq]at h;subst h;exact qG hm hs m4 hc
  ·rename_i hc;simp only[Option.some.injEq]at h;subst h;exact qG hm hs m4 hc
  ·cases h
 | bin f x y =>
  simp only[g6]at h;split at h
  ·rename_i k n k' n' hx hy
   simp only[Option.map_eq_some_iff]at h;obtain ⟨v,hv,rfl⟩:=h;exact Wn hm hs m4 hx hy hv
  ·cases h
 | beq ne x y =>
  simp only[g6]at h;split at h
  ·rename_i b b' hx hy
   simp only[Option.some.injEq]at h;subst h;exact Wm hm hs m4 hx hy
  ·cases h
 | un f x =>
  simp only[g6,Option.map_eq_some_iff]at h;obtain ⟨v,hv,rfl⟩:=h;exact Zp hm hs m4 hv
 | conv k x =>
  simp only[g6]at h;split at h
  ·rename_i k' n hx
   simp only[Option.some.injEq]at h;subst h;exact Vm hm hs m4 hx
  ·cases h
 | box s x =>
  simp only[g6]at h;split at h
  ·rename_i cs gq
   simp only[Option.some.injEq]at h;subst h;exact Wo hm hs m4 gq
  ·cases h
 | alloc s z=>simp only[g6,Option.some.injEq]at h;subst h;exact Wj hm m4
 | build z ps =>
  simp only[g6,Option.map_eq_some_iff]at h;obtain ⟨cs,gq,rfl⟩:=h;exact Ve hm hs m4 gq
 | c9 s b9 ps =>
  simp only[g6]at h;split at h
  ·rename_i es jc
   split at h
   ·rename_i hz
    simp only[Option.some.injEq]at h;subst h;exact Wp hm hs m4 jc hz
   ·cases h
  ·cases h
 | a6 x off =>
  simp only[g6]at h;split at h
  ·rename_i s t i j hx
   simp only[Option.some.injEq]at h;subst h;exact Yy hm hs m4 hx
  ·rename_i cs hx
   simp only[Option.some.injEq]at h;subst h;exact Vo hm hs m4 hx
  ·cases h
 | ox x off n agg =>
  simp only[g6]at h;split at h
  ·rename_i cs hx
   split at h
   ·rename_i ds hp
    simp only[Option.map_eq_some_iff]at h;obtain ⟨v,hv,rfl⟩:=h;exact Yz hm hs m4 hx hp hv
   ·cases h
  ·cases h
 | a5 arr b9 x i =>
  simp only[g6]at h;split at h
  ·rename_i k n hi
   split at h
   ·rename_i len s t i' j hx
    split at h
    ·rename_i hn
     simp only[Option.some.injEq]at h;subst h;exact Za hm hs m4 hi hx hn.1 hn.2
    ·cases h
   ·rename_i len cs hx
    split at h
    ·rename_i hn
     simp only[Option.some.injEq]at h;subst h;exact Add hm hs m4 hi hx hn.1 hn.2
    ·cases h
   ·rename_i s t z off len hx
    split at h
    ·rename_i hn
     simp only[Option.some.injEq]at h;subst h;exact Zb hm hs m4 hi hx hn.1 hn.2.1 hn.2.2
    ·cases h
   ·rename_i l es hx
    split at h
    ·rename_i h0
     split at h
     ·rename_i cs gq
      split at h
      ·rename_i hz
       simp only[Option.some.injEq]at h;subst h;exact Zc hm hs m4 hi hx h0 gq hz
      ·cases h
     ·cases h
    ·cases h
   ·cases h
  ·cases h
 | ld agg n x =>
  simp only[g6]at h;split at h
  ·rename_i s t i j hx
   split at h
   ·rename_i cs gq
    simp only[Option.map_eq_some_iff]at h;obtain ⟨v,hv,rfl⟩:=h;exact Ze hm hs m4 hx (Af1 gq) hv
   ·cases h
  ·rename_i cs hx
   split at h
   ·rename_i ds hp
    simp only[Option.map_eq_some_iff]at h;obtain ⟨v,hv,rfl⟩:=h;exact Zd hm hs m4 hx hp hv
   ·cases h
  ·cases h
 | st n x v =>
  simp only[g6]at h;split at h
  ·rename_i s t i j vs hx ia
   split at h
   ·rename_i hn
    simp only[Option.map_eq_some_iff]at h;obtain ⟨n9,ho,rfl⟩:=h;exact qK hm hs m4 hx ia hn ho
   ·cases h
  ·cases h
 | mk s b9 bytes zero l c =>
  simp only[g6]at h;split at h
  ·rename_i kl a' kc b' hl hc
   split at h
   ·rename_i hn
    simp only[Option.some.injEq]at h;subst h;exact Zg hm hs m4 hl hc hn.1 hn.2.1 hn.2.2.1 hn.2.2.2.1 hn.2.2.2.2
   ·cases h
  ·cases h
 | gp b9 x lo hi =>
  simp only[g6]at h;have Mq : ∀ (d:Nat) (y:Option AR) (q:Nat),(match y with|none=>some d|some o=>match ρ o with | .int _ n=>if 0<=n/\n<=d then some n.toNat else none|_=>none)=some q -> ∃ n:Int,GR ρ d y=some n/\0<=n/\n<=d/\q=n.toNat:=λ d y q hq=>by
   cases y with
   | none=>simp only[Option.some.injEq]at hq;subst hq;exact ⟨d,rfl,by omega,by omega,by simp⟩
   | some y =>
    simp only at hq;cases hy:ρ y with
    | int k n =>
     simp only[hy]at hq;split at hq
     ·rename_i hn
      simp only[Option.some.injEq]at hq;subst hq;exact ⟨n,by simp [GR,hy],hn.1,hn.2,rfl⟩
     ·cases hq
    | _=>simp [hy]at hq
  have Df : ∀ (y:Option AR) (q:Nat),(match y with|none=>some 0|some o=>match ρ o with | .int _ n=>if 0<=n then some n.toNat else none|_=>none)=some q -> ∃ n:Int,GR ρ 0 y=some n/\0<=n/\q=n.toNat:=λ y q hq=>by
   cases y with
   | none=>simp only[Option.some.injEq]at hq;subst hq;exact ⟨0,rfl,by omega,by simp⟩
   | some y =>
    simp only at hq;cases hy:ρ y with
    | int k n =>
     simp only[hy]at hq;split at hq
     ·rename_i hn
      simp only[Option.some.injEq]at hq;subst hq;exact ⟨n,by simp [GR,hy],hn,rfl⟩
     ·cases hq
    | _=>simp [hy]at hq
  have Dg : ∀ (y:Option AR) (q:Nat),(match y with|none=>some 0|some o=>match ρ o with | .int _ n=>if n=0 then some 0 else none|_=>none)=some q->GR ρ 0 y=some 0:=λ y q hq=>by
   cases y with
   | none=>rfl
   | some y =>
    simp only at hq;cases hy:ρ y with
    | int k n =>
     simp only[hy]at hq;split at hq
     ·rename_i hn
      subst hn;simp [GR,hy]
     ·cases hq
    | _=>simp [hy]at hq
  split at h
  ·rename_i l es hx
   split at h
   ·rename_i q1 q2 h1 h2
    split at h
    ·rename_i hq
     simp only[Option.some.injEq]at h;subst h;obtain ⟨n1,b1,c1,rfl⟩:=Df _ _ h1;obtain ⟨n2,b2,c2,c3,rfl⟩:=Mq _ _ _ h2;exact Zo hm hs m4 hx b1 b2 c1 (by omega) c3 hq.2
    ·cases h
   ·cases h
  ·rename_i hx
   split at h
   ·rename_i q1 q2 h1 h2
    simp only[Option.some.injEq]at h;subst h;exact Zm hm hs m4 hx (Dg _ _ h1) (Dg _ _ h2)
   ·cases h
  ·rename_i s t z off len hx
   split at h
   ·rename_i q1 q2 h1 h2
    split at h
    ·rename_i hq
     simp only[Option.some.injEq]at h;subst h;obtain ⟨n1,b1,c1,rfl⟩:=Df _ _ h1;obtain ⟨n2,b2,c2,c3,rfl⟩:=Mq _ _ _ h2;exact Zn hm hs m4 hx b1 b2 c1 (by omega) c3 hq.2
    ·cases h
   ·cases h
  ·cases h
 | ext x i =>
  simp only[g6]at h;split at h
  ·rename_i vs hx
   simp only[Option.map_eq_some_iff]at h;obtain ⟨v,hv,rfl⟩:=h;exact Vn hm hs m4 hx hv
  ·cases h
 | len x =>
  simp only[g6]at h;split at h
  ·rename_i n hn
   simp only[Option.some.injEq]at h;subst h;exact Zf hm hs m4 hn
  ·cases h
 | mm mx xs =>
  simp only[g6]at h;split at h
  ·cases h
  ·rename_i v r hx
   simp only[Option.map_eq_some_iff]at h;obtain ⟨q,hq,rfl⟩:=h;exact Zj hm hs m4 hx hq
 | app s b9 bytes x y =>
  simp only[g6]at h;split at h
  ·rename_i ys ye
   split at h
   ·rename_i hz
    split at h
    ·rename_i s' t z len hx
     split at h
     ·rename_i b hb
      split at h
      ·rename_i hn
       obtain ⟨n1,rfl,n3,n4,n5⟩:=hn;simp only[Option.some.injEq]at h;subst h;exact Wl hm hs m4 ye hz hx hb n1 n3 n4 n5
      ·cases h
     ·cases h
    ·rename_i hx
     split at h
     ·rename_i hn
      simp only[Option.some.injEq]at h;subst h;exact Wk hm hs m4 ye hz hx hn.1 hn.2
     ·cases h
    ·cases h
   ·cases h
  ·cases h
 | call f xs =>
  simp only[g6]at h;split at h
  ·rename_i vs ia
   simp only[Option.map_eq_some_iff]at h;obtain ⟨r,hr,rfl⟩:=h;exact Vf hC hm hs m4 (Aga ia) hr
  ·cases h
 | e9 f xs =>
  simp only[g6,Option.map_eq_some_iff]at h;obtain ⟨r,hr,rfl⟩:=h;exact qE hC hm hs m4 hr
 | ry ne x =>
  simp only[g6]at h;split at h
  ·rename_i hx
   simp only[Option.some.injEq]at h;subst h;exact aY hm hs m4 (b:=true) λ v hv=>by rw[hx]at hv;exact ⟨none,0,0,V9 hv,rfl⟩
  ·rename_i b hx
   simp only[Option.some.injEq]at h;subst h;exact aY hm hs m4 (b:=b) λ v hv=>by
    rw[hx]at hv;obtain ⟨ad,c,h1,h2⟩:=pR hv;exact ⟨ad,0,c,h1,h2⟩
  ·rename_i hx
   simp only[Option.some.injEq]at h;subst h;exact aY hm hs m4 (b:=false) λ v hv=>by rw[hx]at hv;exact Xi hv
  ·rename_i hx
   simp only[Option.some.injEq]at h;subst h;exact aY hm hs m4 (b:=false) λ v hv=>by rw[hx]at hv;exact Xh hv
  ·cases h
 | bad =>
  have h:(none:Option B3)=some E:=h;cases h
 | cq s f xs =>
  simp only[g6,Option.map_eq_some_iff]at h;obtain ⟨p,hp,rfl⟩:=h;exact qE hC hm hs (Afx m4) (aJ.1 hp m.own rfl)
 | gn tb x =>
  simp only[g6]at h;split at h
  ·rename_i k n hx
   split at h
   ·rename_i h0
    split at h
    ·rename_i v hv
     simp only[Option.some.injEq]at h;subst h;exact Zl hm hs m4 hx h0 hv
    ·cases h
   ·cases h
  ·cases h
 | qa p f xs =>
  simp only[g6,Option.map_eq_some_iff]at h;obtain ⟨cs,gq,rfl⟩:=h;rw[hC.num];exact Zh hm hs m4 gq
 | o0 f xs =>
  simp only[g6]at h;split at h
  ·rename_i hq
   split at h
   ·rename_i r hr
    split at h
    ·rename_i kj
     simp only[Option.some.injEq]at h;subst h;exact Vj hC hm hs m4 hq hr kj
    ·cases h
   ·cases h
  ·cases h
 | u9 s f xs =>
  simp only[g6]at h;split at h
  ·rename_i vs ia
   simp only[Option.map_eq_some_iff]at h;obtain ⟨⟨z,es⟩,hr,rfl⟩:=h;exact Vk hC hm hs m4 (Agc ia) hr
  ·cases h
 | nv s n x v =>
  simp only[g6]at h;split at h
  ·rename_i s' t i j vs hx ia
   split at h
   ·rename_i hn
    obtain ⟨rfl,hn⟩:=hn;simp only[Option.map_eq_some_iff]at h;obtain ⟨n9,ho,rfl⟩:=h;have:=qK hm hs (AfN m4) hx ia hn ho
    intro K Q hK;refine this K Q λ u m' h1 h2 h3 h4=>hK u m' ?_ h2 h3 h4
    rw[h1];exact (Aii ho).symm
   ·cases h
  ·cases h
 | n8 x xs =>
  simp only[g6]at h;split at h
  ·rename_i p f g cs hx
   split at h
   ·rename_i hg
    rw[hC.num]at hg;subst hg;split at h
    ·split at h
     ·rename_i vs ia
      simp only[Option.map_eq_some_iff]at h;obtain ⟨r,hr,rfl⟩:=h;exact Vh hC hm hs m4 hx ia hr
     ·cases h
    ·simp only[Option.map_eq_some_iff]at h
     obtain ⟨r,hr,rfl⟩:=h;exact Vl hC hm hs m4 hx hr
    ·split at h
     ·rename_i vs ia
      simp only[Option.map_eq_some_iff]at h;obtain ⟨r,hr,rfl⟩:=h;exact Vg hC hm hs m4 hx ia hr
     ·cases h
   ·cases h
  ·cases h
end
end Go.e8

namespace Go.e8
open Go.RowKit
def D6 (T:Nat->AV):AR->AV
 | .t n=>T n
 | .c v=>v
def IM (T:Nat->AV) (d:Option Nat) (v:AV):Nat->AV:=λ j=>if d=some j then v else T j
def KI (T:Nat->AV):Option (Nat × Bool)->Option Bool
 | none=>some true
 | some (g,want)=>match T g with
  | .bool b=>some (b == want)
  | .l6 []=>some false
  | _=>none
theorem rI (st:St):st.ev=D6 (g7 st.tm):=by funext x;cases x<;>rfl
theorem AeV (st:St) (g:Option (Nat × Bool)):E6 st g=KI (g7 st.tm) g:=rfl
theorem qP (st:St) (d:Option Nat) (v:AV):g7 (st.dst d v).tm=IM (g7 st.tm) d v:=by
 cases d with
 | none=>funext j;simp [St.dst,IM]
 | some d =>
  funext j
  simp only[St.dst,IM,ZS];by_cases h:j=d
  ·simp [h]
  ·simp [h,Ne.symm h]
theorem Tt (st:St) (d:Option Nat) (E:B3):g7 (st.app d E).tm=IM (g7 st.tm) d (E.valOf st.own):=by
 cases E<;>simp only[St.app,B3.valOf]<;>exact qP st d _
theorem qQ (st:St) (d:Option Nat) (v:AV):(st.dst d v).own=st.own:=by cases d<;>rfl
theorem Ts (st:St) (d:Option Nat) (E:B3):(st.app d E).own=E.ag st.own:=by
 cases E with
 | val v=>simp only[St.app,B3.ag];exact qQ st d v
 | _=>rfl
section
variable {B:Nat} {S:Nat->Prop} {w0:World} {m0:M} {N:Nat}
variable {P:Program} {num:Nat->Nat} {C:Cl} {Q:Exit->Act->World->Prop}
structure FA (B:Nat) (S:Nat->Prop) (w0:World) (m0:M) (N:Nat) (T:Nat->AV) (m:M) (a:Act):Prop where
 mem:BL B S w0 m
 ext:C1 B S m0 m
 tm : ∀ i,CV B S m (T i) (a.tmps.getD i undef)
 size:a.tmps.size=N
 defers:a.defers=[]
theorem FA.put {T:Nat->AV} {m m':M} {a:Act} (h:FA B S w0 m0 N T m a) (d:Option Nat) (hd : ∀ k,d=some k->k<N) {v:AV} {u:Value} (hm:BL B S w0 m') (he:C1 B S m m') (hc:CV B S m' v u):FA B S w0 m0 N (IM T d v) m' (a.put d u):=by
 refine ⟨hm,h.ext.trans he,λ i => ?_,?_,?_⟩
 ·cases d with
  | none=>simpa [IM,Act.put] using he.cv (h.tm i)
  | some k =>
   have hk:k<a.tmps.size:=by rw[h.size];exact hd k rfl
   by_cases nj:i=k
   ·subst nj
    simp only[IM,if_true,Act.put];simpa [Array.getD,hk] using hc
   ·have m8 : ¬ (some k=some i):=λ e=>nj (by simpa using e.symm)
    simp only[IM,if_neg m8,Act.put];have:(a.tmps.setIfInBounds k u).getD i undef=a.tmps.getD i undef:=by
     simp [Array.getElem?_setIfInBounds_ne (Ne.symm nj)]
    rw[this];exact he.cv (h.tm i)
 ·cases d<;>simp [Act.put,h.size]
 ·cases d<;>simpa [Act.put] using h.defers
theorem FA.says {T:Nat->AV} {m:M} {a:Act} (h:FA B S w0 m0 N T m a):CF B S m (D6 T) a.eval:=AhK (λ_=>rfl) (λ_=>rfl) h.tm
theorem AiE {T:Nat->AV} {m:M} {a:Act} (h:FA B S w0 m0 N T m a) {ops:Array Oper} {o:Oper} {g':Option (Nat × Bool)} (hg:Y1 ops o.guard g'=true) {g:Bool} (rh:KI T g'=some g):Region.wanted o (yielded ops a.tmps)=g:=by
 unfold Region.wanted;cases Kp:o.guard with
 | none =>
  cases g' with
  | none=>simp [KI]at rh;simp [rh]
  | some _=>simp [Y1,Kp]at hg
 | some jw =>
  obtain ⟨j,want⟩:=jw;cases g' with
  | none=>simp [Y1,Kp]at hg
  | some tw =>
   obtain ⟨t,Qf⟩:=tw;simp only[Y1,Kp,Bool.and_eq_true,beq_iff_eq]at hg;obtain ⟨rfl,hg⟩:=hg;split at hg
   ·rename_i oj Hg
    have Js:oj.dst=some t:=by simpa using hg
    have w5:=h.tm t;simp only[KI]at rh;unfold yielded;simp only[Hg,Option.bind_some,Js];split at rh
    ·rename_i b hb
     rw[hb]at w5;have hv:=SY w5;have o7:a.tmps[t]? = some (.bool b):=by
      cases ht:a.tmps[t]? with
      | none=>simp [ht,undef]at hv
      | some x=>simp [ht]at hv;rw[hv]
     simp only[o7];simp at rh;rw[<-rh];cases b<;>cases want<;>rfl
    ·rename_i hb
     rw[hb]at w5;obtain ⟨vs,hv,hl,_⟩:=fZ w5;have:vs=[]:=List.eq_nil_of_length_eq_zero (by simpa using hl.symm)
     subst this;simp at rh;subst rh;cases ht:a.tmps[t]? with
     | none=>rfl
     | some x =>
      simp [ht]at hv;subst hv;rfl
    ·cases rh
   ·cases hg
theorem zY (hC:GD P num C) {ops:Array Oper} {i:Nat} {o:Oper} {ai:AI} (hi:ops[i]? = some o) (m4:cL P num N ops o ai=true) {T:Nat->AV} {m:M} {a:Act} (hf:FA B S w0 m0 N T m a) {g:Bool} (hg:KI T ai.guard=some g) {E:B3}
  (hE:g=true->g6 C ai.c7 (D6 T) m.own ai.op=some E) {K:Act->World->Prop} (hK : ∀ m' a',m'.own=(if g then E.ag m.own else m.own)->FA B S w0 m0 N (IM T ai.dst (if g then E.valOf m.own else .l6 [])) m' a'->K a' m'.w):wpOp P ops Q i K a m.w:=by
 simp only[cL,Bool.and_eq_true,beq_iff_eq]at m4;obtain ⟨⟨⟨h1,h2⟩,h3⟩,h4⟩:=m4;have hd : ∀ k,o.dst=some k->k<N:=λ k hk=>by
  rw[h1]at hk;rw[hk]at h2;simpa using h2
 unfold wpOp;simp only[hi,AiE hf h3 hg];cases g with
 | true =>
  simp only[if_true];refine .inl (Yi hC hf.mem hf.says h4 (hE rfl) K Q λ u m' m6 mj gd w5 => ?_);refine hK m' _ (by simpa using m6) ?_;rw[<-h1];exact hf.put o.dst hd mj gd w5
 | false =>
  simp only[Bool.false_eq_true,if_false];refine hK m _ (by simp) ?_;rw[<-h1];exact hf.put o.dst hd hf.mem (C1.refl m) vC
theorem yN {o:AI} {st l9:St} (h:CO C o st=some l9) : ∃ g E,KI (g7 st.tm) o.guard=some g/\(g=true->g6 C o.c7 (D6 (g7 st.tm)) st.own o.op=some E)/\g7 l9.tm=IM (g7 st.tm) o.dst (if g then E.valOf st.own else .l6 [])/\l9.own=(if g then E.ag st.own else st.own):=by
 unfold CO at h;rw[AeV]at h;cases hg:KI (g7 st.tm) o.guard with
 | none=>simp [hg]at h
 | some g =>
  cases g with
  | true =>
   simp only[hg,Option.map_eq_some_iff]at h;obtain ⟨E,hE,rfl⟩:=h;rw[rI]at hE;exact ⟨true,E,rfl,λ_=>hE,Tt st o.dst E,Ts st o.dst E⟩
  | false =>
   simp only[hg,Option.some.injEq]at h;subst h;exact ⟨false,.val .any,rfl,λ h=>(by cases h),qP st o.dst _,qQ st o.dst _⟩
theorem Y2 {ops:Array Oper} : ∀ {os:List Oper} {l:List AI},P3 P num N ops os l=true->os.length=l.length /\ ∀ (i:Nat) (o:Oper) (x:AI),os[i]? = some o->l[i]? = some x->cL P num N ops o x=true
 | [],[],_=>⟨rfl,λ i o x h=>by simp at h⟩
 | o::r,x::l,h=>by
  simp only[P3,Bool.and_eq_true]at h;obtain ⟨h1,h2⟩:=Y2 h.2;refine ⟨by simp [h1],λ i o' x' ho hx => ?_⟩;cases i with
  | zero=>simp at ho hx;subst ho hx;exact h.1
  | succ i=>exact h2 i o' x' (by simpa using ho) (by simpa using hx)
 | [],_::_,h=>by simp [P3]at h
 | _::_,[],h=>by simp [P3]at h
theorem zZ (hC:GD P num C) {ops:Array Oper} {l:List AI} (m4:P3 P num N ops ops.toList l=true) : ∀ (n k:Nat) (st l9:St) (m:M) (a:Act),n+k=ops.size->CU C (l.drop k) st=some l9->m.own=st.own->FA B S w0 m0 N (g7 st.tm) m a ->
  (∀ m' a',m'.own=l9.own->FA B S w0 m0 N (g7 l9.tm) m' a'->Q .normal a' m'.w)->wpOps P ops Q (List.range' k n) a m.w
 | 0,k,st,l9,m,a,hk,hs,m6,hf,hQ=>by
  have hl:=(Y2 m4).1;simp at hl;rw[List.drop_eq_nil_of_le (by omega)]at hs;simp only[CU,Option.some.injEq]at hs;subst hs;simpa [wpOps] using hQ m a m6 hf
 | n+1,k,st,l9,m,a,hk,hs,m6,hf,hQ=>by
  obtain ⟨hl,hg⟩:=Y2 m4;simp at hl;have oa:k<l.length:=by omega
  have Oc:k<ops.size:=by omega
  rw[List.drop_eq_getElem_cons oa]at hs;simp only[CU]at hs;cases m5:CO C l[k] st with
  | none=>simp [m5]at hs
  | some A4 =>
   simp only[m5]at hs;obtain ⟨g,E,h1,h2,h3,h4⟩:=yN m5;rw[List.range'_succ,wpOps_cons];have hoi:ops[k]? = some ops[k]:=Array.getElem?_eq_getElem Oc;refine zY hC hoi (hg k ops[k] l[k] (by simp [Oc]) (zE oa)) hf h1 (λ fh=>by rw[m6];exact h2 fh) λ m' a' ko nf => ?_
   refine zZ hC m4 n (k+1) A4 l9 m' a' (by omega) hs ?_ ?_ hQ
   ·rw[ko,m6,h4]
   ·rw[m6]at nf
    rw[h3];exact nf
end
end Go.e8

namespace Go.e8
open Go.RowKit
section
variable {T T':Nat->AV} {C:Cl} {c7:List Nat} {own:AH}
theorem DJ {x:AR} (h : ∀ t∈CT x,T t=T' t):D6 T x=D6 T' x:=by
 cases x with
 | t n=>exact h n (by simp [CT])
 | c v=>rfl
theorem U5 {xs:List AR} (h : ∀ t∈xs.flatMap CT,T t=T' t):xs.map (D6 T)=xs.map (D6 T') :=
 List.map_congr_left λ x hx=>DJ λ t ht=>h t (List.mem_flatMap.2 ⟨x,hx,ht⟩)
theorem wD {x:Option AR} (h : ∀ t∈kJ x,T t=T' t) {y:AR} (hy:x=some y):D6 T y=D6 T' y:=by
 subst hy;exact DJ h
theorem Yd {op:DG} (h : ∀ t∈HF op,T t=T' t):g6 C c7 (D6 T) own op=g6 C c7 (D6 T') own op:=by
 cases op with
 | build z ps =>
  simp only[g6];congr 2;refine List.map_congr_left λ p hp => ?_
  rw[DJ (x:=p.2.2) λ t ht=>h t (by simp only[HF];exact List.mem_flatMap.2 ⟨p,hp,ht⟩)]
 | c9 s b9 ps =>
  have hm:ps.mapM (λ x=>cellsOf (D6 T x))=ps.mapM (λ x=>cellsOf (D6 T' x)):=by
   have e : ∀ l:List AR,(∀ x∈l,D6 T x=D6 T' x)->l.mapM (λ x=>cellsOf (D6 T x))=l.mapM (λ x=>cellsOf (D6 T' x)):=by
    intro l;induction l with
    | nil=>intro _;rfl
    | cons x r ih=>intro hl;simp only[List.mapM_cons];rw[hl x (by simp),ih λ y hy=>hl y (by simp [hy])]
   exact e ps λ x hx=>DJ λ t ht=>h t (by simp only[HF];exact List.mem_flatMap.2 ⟨x,hx,ht⟩)
  simp only[g6,hm]
 | mm mx xs=>simp only[g6];rw[U5 (xs:=xs) h]
 | call f xs=>simp only[g6];rw[U5 (xs:=xs) h]
 | e9 f xs=>simp only[g6];rw[U5 (xs:=xs) h]
 | ry ne x=>simp only[g6];rw[DJ (x:=x) h]
 | bad=>rfl
 | gn tb x=>simp only[g6];rw[DJ (x:=x) h]
 | qa p f xs =>
  have e : ∀ l:List AR,(∀ x∈l,D6 T x=D6 T' x)->l.mapM (λ x=>F7 (D6 T x))=l.mapM (λ x=>F7 (D6 T' x)):=by
   intro l;induction l with
   | nil=>intro _;rfl
   | cons x r ih=>intro hl;simp only[List.mapM_cons];rw[hl x (by simp),ih λ y hy=>hl y (by simp [hy])]
  simp only[g6];rw[e xs λ x hx=>DJ λ t ht=>h t (by simp only[HF];exact List.mem_flatMap.2 ⟨x,hx,ht⟩)]
 | o0 f xs=>simp only[g6];rw[U5 (xs:=xs) h]
 | u9 s f xs=>simp only[g6];rw[U5 (xs:=xs) h]
 | cq s f xs=>simp only[g6];rw[U5 (xs:=xs) h]
 | nv s n x v =>
  simp only[HF,List.mem_append]at h;simp only[g6];rw[DJ (x:=x) λ t ht=>h t (.inl ht),DJ (x:=v) λ t ht=>h t (.inr ht)]
 | n8 x xs =>
  simp only[HF,List.mem_append]at h;simp only[g6];rw[DJ (x:=x) λ t ht=>h t (.inl ht),U5 (xs:=xs) λ t ht=>h t (.inr ht)]
 | gp b9 x lo hi =>
  simp only[HF,List.mem_append]at h;have hx:D6 T x=D6 T' x:=DJ λ t ht=>h t (.inl (.inl ht))
  have od : ∀ y,lo=some y->D6 T y=D6 T' y:=λ y hy=>wD (λ t ht=>h t (.inl (.inr ht))) hy
  have Hc : ∀ y,hi=some y->D6 T y=D6 T' y:=λ y hy=>wD (λ t ht=>h t (.inr ht)) hy
  simp only[g6,hx];cases lo with
  | none=>cases hi with
   | none=>rfl
   | some y=>simp only[Hc y rfl]
  | some z=>cases hi with
   | none=>simp only[od z rfl]
   | some y=>simp only[od z rfl,Hc y rfl]
 | w9=>rfl
 | alloc=>rfl
 | a9 x=>simp only[g6];rw[DJ (x:=x) h]
 | un f x=>simp only[g6];rw[DJ (x:=x) h]
 | conv k x=>simp only[g6];rw[DJ (x:=x) h]
 | box s x=>simp only[g6];rw[DJ (x:=x) h]
 | a6 x off=>simp only[g6];rw[DJ (x:=x) h]
 | ox x off n agg=>simp only[g6];rw[DJ (x:=x) h]
 | ld agg n x=>simp only[g6];rw[DJ (x:=x) h]
 | ext x i=>simp only[g6];rw[DJ (x:=x) h]
 | len x=>simp only[g6];rw[DJ (x:=x) h]
 | pick c x y =>
  simp only[HF,List.mem_append]at h;simp only[g6];rw[DJ (x:=c) λ t ht=>h t (.inl (.inl ht)),DJ (x:=x) λ t ht=>h t (.inl (.inr ht)),DJ (x:=y) λ t ht=>h t (.inr ht)]
 | bin f x y =>
  simp only[HF,List.mem_append]at h;simp only[g6];rw[DJ (x:=x) λ t ht=>h t (.inl ht),DJ (x:=y) λ t ht=>h t (.inr ht)]
 | beq ne x y =>
  simp only[HF,List.mem_append]at h;simp only[g6];rw[DJ (x:=x) λ t ht=>h t (.inl ht),DJ (x:=y) λ t ht=>h t (.inr ht)]
 | a5 arr b9 x i =>
  simp only[HF,List.mem_append]at h;simp only[g6];rw[DJ (x:=x) λ t ht=>h t (.inl ht),DJ (x:=i) λ t ht=>h t (.inr ht)]
 | st n x v =>
  simp only[HF,List.mem_append]at h;simp only[g6];rw[DJ (x:=x) λ t ht=>h t (.inl ht),DJ (x:=v) λ t ht=>h t (.inr ht)]
 | mk s b9 bytes z l c =>
  simp only[HF,List.mem_append]at h;simp only[g6];rw[DJ (x:=l) λ t ht=>h t (.inl ht),DJ (x:=c) λ t ht=>h t (.inr ht)]
 | app s b9 bytes x y =>
  simp only[HF,List.mem_append]at h;simp only[g6];rw[DJ (x:=x) λ t ht=>h t (.inl ht),DJ (x:=y) λ t ht=>h t (.inr ht)]
theorem tW (o:AH) (l:List Nat) (s:Nat):o.o3 l s=if s∈l then ⟨0,λ_=>none⟩ else o s:=by
 induction l with
 | nil=>simp [AH.o3]
 | cons x r ih =>
  simp only[AH.o3,List.mem_cons];by_cases h:s=x
  ·simp [h]
  ·rw[if_neg h,ih]
   simp [h]
theorem Afj {o o':AH} {l:List Nat} (h : ∀ s,s ∉ l->o s=o' s):o.o3 l=o'.o3 l:=by
 funext s
 rw[tW,tW];split
 ·rfl
 ·rename_i hs;exact h s hs
end
section
variable {ops:Array Oper}
def inner (acc:Array Nat) (o:Oper):Nat:=o.after.foldl (λ s e=>if Region.binds .any e then s ||| 2^e.on ||| acc.getD e.on 0 else s) 0
theorem Afm (acc:Array Nat) (o:Oper) (j:Nat) (h:(inner acc o).testBit j=true) : ∃ e∈o.after,Region.binds .any e=true/\(e.on=j\/(acc.getD e.on 0).testBit j=true):=by
 unfold inner at h;rw[<-Array.foldl_toList]at h;have key : ∀ (l:List Edge) (s:Nat),(l.foldl (λ s e=>if Region.binds .any e then s ||| 2^e.on ||| acc.getD e.on 0 else s) s).testBit j=true->s.testBit j=true \/ ∃ e∈l,Region.binds .any e=true/\(e.on=j\/(acc.getD e.on 0).testBit j=true):=by
  intro l;induction l with
  | nil=>intro s hs;exact .inl hs
  | cons e r ih =>
   intro s hs;simp only[List.foldl_cons]at hs;rcases ih _ hs with h1|⟨e',ja,h2⟩
   ·by_cases hb:Region.binds .any e=true
    ·simp only[hb,if_true,Nat.testBit_or,Bool.or_eq_true,Nat.testBit_two_pow,decide_eq_true_eq]at h1
     rcases h1 with (h1|h1)|h1
     ·exact .inl h1
     ·exact .inr ⟨e,by simp,hb,.inl h1⟩
     ·exact .inr ⟨e,by simp,hb,.inr h1⟩
    ·simp only[hb,Bool.false_eq_true,if_false]at h1
     exact .inl h1
   ·exact .inr ⟨e',by simp [ja],h2⟩
 rcases key _ _ h with h|⟨e,he,h⟩
 ·simp at h
 ·exact ⟨e,by simpa using he,h⟩
theorem Tv (i j:Nat) (h:((Region.before ops).getD i 0).testBit j=true) : ∃ o,ops[i]? = some o /\ ∃ e∈o.after,Region.binds .any e=true/\(e.on=j\/(e.on<i/\((Region.before ops).getD e.on 0).testBit j=true)):=by
 have key : ∀ (rest:List Oper) (done:List Oper) (acc:Array Nat),acc.size=done.length ->
   (∀ i j,(acc.getD i 0).testBit j=true -> ∃ o,done[i]? = some o /\ ∃ e∈o.after,Region.binds .any e=true/\(e.on=j\/(e.on<i/\(acc.getD e.on 0).testBit j=true))) ->
   ∀ i j,((rest.foldl (λ acc o=>acc.push (inner acc o)) acc).getD i 0).testBit j=true -> ∃ o,(done++rest)[i]? = some o /\ ∃ e∈o.after,Region.binds .any e=true/\(e.on=j\/(e.on<i/\((rest.foldl (λ acc o=>acc.push (inner acc o)) acc).getD e.on 0).testBit j=true)):=by
  intro rest;induction rest with
  | nil=>intro done acc hs hinv i j hj;simpa using hinv i j hj
  | cons o r ih =>
   intro done acc hs hinv i j hj;simp only[List.foldl_cons]at hj ⊢;have:=ih (done++[o]) (acc.push (inner acc o)) (by simp [hs]) (λ i j ug => ?_) i j hj
   ·simpa using this
   ·have o7 : ∀ k,k<acc.size->(acc.push (inner acc o)).getD k 0=acc.getD k 0:=λ k hk=>by
     simp [Array.getD,hk,Nat.lt_succ_of_lt hk,Array.getElem_push_lt hk]
    by_cases hi:i<acc.size
    ·rw[o7 i hi]at ug
     obtain ⟨o',xu,e,he,hb,fi⟩:=hinv i j ug;refine ⟨o',by rw[List.getElem?_append_left (by omega)];exact xu,e,he,hb,fi.imp id λ⟨h1,h2⟩=>⟨h1,by rw[o7 e.on (by omega)];exact h2⟩⟩
    ·have Kb:i=acc.size:=by
      rcases Nat.lt_or_ge i (acc.push (inner acc o)).size with h1|h1
      ·simp at h1;omega
      ·have:(acc.push (inner acc o)).getD i 0=0:=by simp [Array.getD];intro h2;simp at h1;omega
       rw[this]at ug;simp at ug
     subst Kb;have ln:(acc.push (inner acc o)).getD acc.size 0=inner acc o:=by simp [Array.getD]
     rw[ln]at ug;obtain ⟨e,he,hb,fi⟩:=Afm acc o j ug;refine ⟨o,by rw[hs];simp,e,he,hb,fi.imp id λ h2 => ?_⟩;have m9:e.on<acc.size:=by
      rcases Nat.lt_or_ge e.on acc.size with h3|h3
      ·exact h3
      ·have:acc.getD e.on 0=0:=by simp [Array.getD];omega
       rw[this]at h2;simp at h2
     exact ⟨m9,by rw[o7 e.on m9];exact h2⟩
 have hb:Region.before ops=ops.toList.foldl (λ acc o=>acc.push (inner acc o)) #[]:=by
  unfold Region.before;rw[<-Array.foldl_toList];rfl
 rw[hb]at h ⊢;have:=key ops.toList [] #[] rfl (λ i j ug=>by simp at ug) i j h
 simpa using this
def VW (ops:Array Oper) (X:Nat->Bool):Prop := ∀ j o,X j=true->ops[j]? = some o -> ∀ e∈o.after,Region.binds .any e=true->X e.on=true
theorem Mm {X:Nat->Bool} (hX:VW ops X) : ∀ (i:Nat),(∀ o,ops[i]? = some o -> ∀ e∈o.after,Region.binds .any e=true->X e.on=true) -> ∀ j,((Region.before ops).getD i 0).testBit j=true->X j=true:=by
 intro i;induction i using Nat.strongRecOn with
 | ind i ih =>
  intro hi j hj;obtain ⟨o,ho,e,he,hb,fi⟩:=Tv i j hj;have hx:=hi o ho e he hb;rcases fi with h|⟨m9,h⟩
  ·rw[<-h];exact hx
  ·exact ih e.on m9 (λ o' xu e' ja m7=>hX e.on o' hx xu e' ja m7) j h
theorem AgW {X:Nat->Bool} (hX:VW ops X) {i j:Nat} (hi : ∀ o,ops[i]? = some o -> ∀ e∈o.after,Region.binds .any e=true->X e.on=true) (m9:j<i) (h:HR (Region.before ops) i j=true):X j=true:=by
 unfold HR at h;rw[Nat.max_eq_left (by omega),Nat.min_eq_right (by omega)]at h;exact Mm hX i hi j h
theorem wF {X:Nat->Bool} (hX:VW ops X) {i j:Nat} (hj:X j=true) (m9:i<j) (h:HR (Region.before ops) i j=true):X i=true:=by
 unfold HR at h;rw[Nat.max_eq_right (by omega),Nat.min_eq_left (by omega)]at h;exact Mm hX j (λ o ho e he hb=>hX j o hj ho e he hb) i h
end
section
variable {C:Cl}
abbrev D:=(Nat->AV) × AH
structure DH where
 d:Option Nat
 g:Bool
 E:B3
 v:AV
def DH.own (r:DH) (o:AH):AH:=if r.g then r.E.ag o else o
def DH.act (r:DH) (x:D):D:=(IM x.1 r.d r.v,r.own x.2)
structure VX (C:Cl) (x:AI) (r:DH) (s s':St):Prop where
 d:r.d=x.dst
 g:KI (g7 s.tm) x.guard=some r.g
 E:r.g=true->g6 C x.c7 (D6 (g7 s.tm)) s.own x.op=some r.E
 v:r.v=(if r.g then r.E.valOf s.own else .l6 [])
 act:(g7 s'.tm,s'.own)=r.act (g7 s.tm,s.own)
theorem trace : ∀ {l:List AI} {st l9:St},CU C l st=some l9 -> ∃ (σ:Nat->St) (rs:List DH),σ 0=st/\σ l.length=l9/\rs.length=l.length /\ ∀ (k:Nat) (x:AI) (r:DH),l[k]? = some x->rs[k]? = some r->VX C x r (σ k) (σ (k+1))
 | [],st,l9,h=>by
  simp only[CU,Option.some.injEq]at h;subst h;exact ⟨λ_=>st,[],rfl,rfl,rfl,λ k x r hx=>by simp at hx⟩
 | o::q,st,l9,h=>by
  simp only[CU]at h;cases hs:CO C o st with
  | none=>simp [hs]at h
  | some A4 =>
   simp only[hs]at h;obtain ⟨σ,rs,h0,h1,hl,h2⟩:=trace h;obtain ⟨g,E,e1,e2,e3,e4⟩:=yN hs;refine ⟨λ k=>match k with|0=>st|k+1=>σ k,⟨o.dst,g,E,if g then E.valOf st.own else .l6 []⟩::rs,rfl,h1,by simp [hl],λ k x r hx hr => ?_⟩;cases k with
   | zero =>
    simp at hx hr;subst hx hr;refine ⟨rfl,e1,e2,rfl,?_⟩;show (g7 (σ 0).tm,(σ 0).own)=_;rw[h0,e3,e4];rfl
   | succ k=>exact h2 k x r (by simpa using hx) (by simpa using hr)
def C9 (X:Nat->Bool):List DH->Nat->D->D
 | [],_,x=>x
 | r::rs,k,x=>C9 X rs (k+1) (if X k then r.act x else x)
theorem iO (X:Nat->Bool) : ∀ (l l':List DH) (k:Nat) (x:D),C9 X (l++l') k x=C9 X l' (k+l.length) (C9 X l k x)
 | [],l',k,x=>by simp [C9]
 | r::rs,l',k,x=>by
  simp only[List.cons_append,C9,List.length_cons];rw[iO X rs l' (k+1)];congr 1;omega
theorem sZ {X Y:Nat->Bool} {t:Nat} : ∀ (l:List DH) (k:Nat) (x y:D),x.1 t=y.1 t->(∀ i r,l[i]? = some r->r.d=some t->X (k+i)=Y (k+i))->(C9 X l k x).1 t=(C9 Y l k y).1 t
 | [],k,x,y,h,_=>h
 | r::rs,k,x,y,h,tz=>by
  simp only[C9];refine sZ rs (k+1) _ _ ?_ λ i r' hr hd=>by
   have:=tz (i+1) r' (by simpa using hr) hd
   rw[show k+1+i=k+(i+1) by omega];exact this
  by_cases hd:r.d=some t
  ·have hx:X k=Y k:=by simpa using tz 0 r rfl hd
   rw[hx];cases Y k
   ·simpa using h
   ·simp [DH.act,IM,hd]
  ·have e1 : ∀ z:D,(r.act z).1 t=z.1 t:=λ z=>by simp [DH.act,IM,hd]
   cases X k<;>cases Y k<;>simp [e1,h]
theorem AgX (E:B3) (s:Nat) (o o':AH) (h:o s=o' s):E.ag o s=E.ag o' s:=by
 cases E with
 | val v=>exact h
 | new s' b v =>
  simp only[B3.ag,AH.put];by_cases hs:s=s'
  ·subst hs;simp [h]
  ·simp [hs,h]
 | yl s' b v =>
  simp only[B3.ag,AH.put];by_cases hs:s=s'
  ·subst hs;simp [h]
  ·simp [hs,h]
 | ea v o2=>rfl
 | wm s' x v =>
  simp only[B3.ag,AH.put];by_cases hs:s=s'
  ·simp [hs]
  ·simp [hs,h]
 | q8 s' x =>
  simp only[B3.ag,AH.put];by_cases hs:s=s'
  ·simp [hs]
  ·simp [hs,h]
theorem sY {X Y:Nat->Bool} {s:Nat} : ∀ (l:List DH) (k:Nat) (x y:D),x.2 s=y.2 s->(∀ i r,l[i]? = some r->X (k+i)=Y (k+i) \/ ∀ o,r.own o s=o s)->(C9 X l k x).2 s=(C9 Y l k y).2 s
 | [],k,x,y,h,_=>h
 | r::rs,k,x,y,h,tz=>by
  simp only[C9];refine sY rs (k+1) _ _ ?_ λ i r' hr=>by
   have:=tz (i+1) r' (by simpa using hr)
   rw[show k+1+i=k+(i+1) by omega];exact this
  rcases tz 0 r rfl with hx|hx
  ·simp only[Nat.add_zero]at hx
   rw[hx];cases Y k
   ·simpa using h
   ·simp only[if_true,DH.act,DH.own]
    cases r.g
    ·simpa using h
    ·simpa using AgX r.E s _ _ h
  ·have e1 : ∀ z:D,(r.act z).2 s=z.2 s:=λ z=>hx z.2
   cases X k<;>cases Y k<;>simp [e1,h]
theorem iP {X:Nat->Bool} (q:DH) : ∀ (l:List DH) (k:Nat) (x:D),(∀ i r,l[i]? = some r->X (k+i)=true -> ∀ z,r.act (q.act z)=q.act (r.act z))->C9 X l k (q.act x)=q.act (C9 X l k x)
 | [],k,x,_=>rfl
 | r::rs,k,x,h=>by
  simp only[C9];have eg : ∀ i r',rs[i]? = some r'->X (k+1+i)=true -> ∀ z,r'.act (q.act z)=q.act (r'.act z):=λ i r' hr hX=>h (i+1) r' (by simpa using hr) (by rw[show k+(i+1)=k+1+i by omega];exact hX)
  cases hk:X k
  ·simp only[Bool.false_eq_true,if_false]
   exact iP q rs (k+1) x eg
  ·simp only[if_true]
   rw[h 0 r rfl (by simpa using hk)];exact iP q rs (k+1) _ eg
theorem bJ {X Y:Nat->Bool} : ∀ (l:List DH) (k:Nat) (x:D),(∀ i,i<l.length->X (k+i)=Y (k+i))->C9 X l k x=C9 Y l k x
 | [],_,_,_=>rfl
 | r::rs,k,x,h=>by
  simp only[C9];rw[show X k=Y k by simpa using h 0 (by simp)];exact bJ rs (k+1) _ λ i hi=>by
   have:=h (i+1) (by simpa using hi)
   rw[show k+1+i=k+(i+1) by omega];exact this
theorem sX {X X':Nat->Bool} {l:List DH} {i:Nat} {q:DH} (hq:l[i]? = some q) (mg:X i=false) (vp : ∀ j,X' j=(decide (j=i)||X j)) (x:D) (Eh : ∀ j r,l[j]? = some r->i<j->X j=true -> ∀ z,r.act (q.act z)=q.act (r.act z)) :
  C9 X' l 0 x=q.act (C9 X l 0 x):=by
 have aw:i<l.length:=(zS hq).1;have Og:l=l.take i++(q::l.drop (i+1)):=by
  have:l.drop i=q::l.drop (i+1):=by
   rw[List.drop_eq_getElem_cons aw];congr 1;have:=(zS hq).2
   exact this
  rw[<-this,List.take_append_drop]
 have ck:(l.take i).length=i:=by simp;omega
 rw[Og,iO,iO,ck,Nat.zero_add];simp only[C9,mg,Bool.false_eq_true,if_false];rw[show X' i=true by rw[vp];simp];simp only[if_true];rw[bJ (X:=X') (Y:=X) (l.take i) 0 x (λ j hj=>by rw[vp];simp;omega)];rw[bJ (X:=X') (Y:=X) (l.drop (i+1)) (i+1) _ (λ j hj=>by rw[vp];simp;omega)];refine iP q _ _ _ λ j r hr Iq => ?_
 rw[List.getElem?_drop]at hr;exact Eh (i+1+j) r hr (by omega) Iq
end
end Go.e8

namespace Go.e8
open Go.RowKit
section
variable {C:Cl} {c7:List Nat} {ρ:AR->AV}
theorem Yg {op:DG} (o o':AH) (ht:GC op=false) (hr:ZE op=true->o.o3 c7=o'.o3 c7) (m5 : ∀ s,EG op=some s->o s=o' s):g6 C c7 ρ o op=g6 C c7 ρ o' op:=by
 cases op with
 | nv s n x v =>
  have h1:=m5 s rfl;have h2 : ∀ t i j vs,(o.me s t i j vs).map (λ q=>B3.q8 s (q s))=(o'.me s t i j vs).map (λ q=>B3.q8 s (q s)):=λ t i j vs=>by
   have hg:o.get s t=o'.get s t:=by unfold AH.get;rw[h1]
   unfold AH.me;rw[hg];cases o'.get s t with
   | none=>rfl
   | some b =>
    simp only;cases b.es[i]? with
    | none=>rfl
    | some cs =>
     simp only;split
     ·simp only[Option.map_some,AH.l8,h1]
     ·rfl
  simp only[g6,h2]
 | ld agg n x=>have:=hr rfl;simp only[g6,this]
 | call f xs=>have:=hr rfl;simp only[g6,this]
 | u9 s f xs=>have:=hr rfl;simp only[g6,this]
 | cq s f xs=>have h1:=m5 s rfl;simp only[g6,h1]
 | st=>simp [GC]at ht
 | app=>simp [GC]at ht
 | e9=>simp [GC]at ht
 | n8=>simp [GC]at ht
 | _=>rfl
theorem qU {op:DG} {o:AH} {E:B3} (h:g6 C c7 ρ o op=some E) {s:Nat} (hs:EG op=some s):(∃ b v,E = .new s b v\/E = .yl s b v) \/ ∃ x v,E = .q8 s x\/E = .wm s x v:=by
 cases op with
 | nv s' n x v =>
  simp only[EG,Option.some.injEq]at hs;subst hs;simp only[g6]at h;split at h
  ·split at h
   ·simp only[Option.map_eq_some_iff]at h
    obtain ⟨q,_,rfl⟩:=h;exact .inr ⟨_,.any,.inl rfl⟩
   ·cases h
  ·cases h
 | u9 s' f xs =>
  simp only[EG,Option.some.injEq]at hs;subst hs;simp only[g6]at h;split at h
  ·simp only[Option.map_eq_some_iff]at h
   obtain ⟨r,_,rfl⟩:=h;exact .inl ⟨_,_,.inl rfl⟩
  ·cases h
 | cq s' f xs =>
  simp only[EG,Option.some.injEq]at hs;subst hs;simp only[g6,Option.map_eq_some_iff]at h;obtain ⟨p,_,rfl⟩:=h;exact .inr ⟨_,_,.inr rfl⟩
 | w9 s' z =>
  simp only[EG,Option.some.injEq]at hs;subst hs;simp only[g6,Option.some.injEq]at h;exact .inl ⟨_,_,.inr h.symm⟩
 | box s' x =>
  simp only[EG,Option.some.injEq]at hs;subst hs;simp only[g6]at h;split at h
  ·simp only[Option.some.injEq]at h;exact .inl ⟨_,_,.inl h.symm⟩
  ·cases h
 | alloc s' z =>
  simp only[EG,Option.some.injEq]at hs;subst hs;simp only[g6,Option.some.injEq]at h;exact .inl ⟨_,_,.inl h.symm⟩
 | c9 s' b9 ps =>
  simp only[EG,Option.some.injEq]at hs;subst hs;simp only[g6]at h;split at h
  ·split at h
   ·simp only[Option.some.injEq]at h;exact .inl ⟨_,_,.inl h.symm⟩
   ·cases h
  ·cases h
 | mk s' b9 bytes z l c =>
  simp only[EG,Option.some.injEq]at hs;subst hs;simp only[g6]at h;split at h
  ·split at h
   ·simp only[Option.some.injEq]at h;exact .inl ⟨_,_,.inl h.symm⟩
   ·cases h
  ·cases h
 | _=>simp [EG]at hs
theorem jQ {α:Type} {x:Option α} {f:α->AV} {E:B3} (h:x.map (λ y=>B3.val (f y))=some E) : ∃ v,E = .val v:=by
 cases x with
 | none=>cases h
 | some y=>simp only[Option.map_some,Option.some.injEq]at h;exact ⟨_,h.symm⟩
theorem qV {op:DG} {o:AH} {E:B3} (h:g6 C c7 ρ o op=some E) (ht:GC op=false) (hs:EG op=none) : ∃ v,E = .val v:=by
 cases op<;>first|(simp [GC]at ht;done)|(simp [EG]at hs;done)|skip
 all_goals simp only[g6]at h
 all_goals
  first
   | (simp only[Option.some.injEq]at h;exact ⟨_,h.symm⟩)
   | exact jQ (f:=id) h
   | skip
 all_goals (repeat' split at h)
 all_goals
  first
   | (cases h;done)
   | (simp only[Option.some.injEq]at h;exact ⟨_,h.symm⟩)
   | exact jQ (f:=id) h
   | exact jQ (f:=AV.agg) h
   | (simp only[Option.map_eq_some_iff]at h;obtain ⟨cs,_,rfl⟩:=h;exact ⟨_,rfl⟩)
theorem U9 {x:AI} {r:DH} {s s':St} (h:VX C x r s s') (ht:GC x.op=false) (hs:EG x.op=none) (o:AH):r.own o=o:=by
 unfold DH.own;cases hg:r.g with
 | false=>rfl
 | true =>
  obtain ⟨v,hv⟩:=qV (h.E hg) ht hs;simp [hv,B3.ag]
theorem kN {x:AI} {r:DH} {s s':St} (h:VX C x r s s') {q:Nat} (hs:EG x.op=some q):(∀ o,r.own o=o) \/ ∃ F:B1->B1,∀ o:AH,r.own o=o.put q (F (o q)):=by
 unfold DH.own;cases hg:r.g with
 | false=>exact .inl λ_=>rfl
 | true =>
  rcases qU (h.E hg) hs with ⟨b,v,hv|hv⟩|⟨x,v,hv|hv⟩
  ·exact .inr ⟨λ q=>q.new b,λ o=>by simp [hv,B3.ag]⟩
  ·exact .inr ⟨λ q=>q.new b,λ o=>by simp [hv,B3.ag]⟩
  ·exact .inr ⟨λ_=>x,λ o=>by simp [hv,B3.ag]⟩
  ·exact .inr ⟨λ_=>x,λ o=>by simp [hv,B3.ag]⟩
theorem wV {x:AI} {r:DH} {s s':St} (h:VX C x r s s') {q:Nat} (hs:EG x.op=some q) {p:Nat} (hp:p≠q) (o:AH):r.own o p=o p:=by
 rcases kN h hs with h1|⟨b,h1⟩
 ·rw[h1]
 ·rw[h1];simp [AH.put,hp]
theorem wE (b:Array Nat) (i j:Nat):HR b i j=HR b j i:=by unfold HR;rw[Nat.max_comm,Nat.min_comm]
theorem TA {ops:Array Oper} {l:List AI} (h:S6 ops l=true) {i j:Nat} {x y:AI} (hx:l[i]? = some x) (hy:l[j]? = some y) (m8:i≠j) :
  (HR (Region.before ops) i j=true\/((∀ t,y.dst=some t->t ∉ WT x)/\(GC x.op=false\/JX y.op=false)/\(ZE x.op=true -> ∀ s,EG y.op=some s->s∈x.c7))) /\
  (HR (Region.before ops) i j=true \/ ∀ s s',EG x.op=some s->EG y.op=some s'->s≠s'):=by
 simp only[S6,Bool.and_eq_true]at h;have h1:=h.1.1;rw[List.all_eq_true]at h1;have hxm:(x,i)∈l.zipIdx:=List.mem_zipIdx_iff_getElem?.2 hx;have hym:(y,j)∈l.zipIdx:=List.mem_zipIdx_iff_getElem?.2 hy;have h2:=h1 (x,i) hxm;simp only at h2;rw[List.all_eq_true]at h2;have h3:=h2 (y,j) hym;simp only[Bool.and_eq_true,Bool.or_eq_true,beq_iff_eq,m8,false_or]at h3;obtain ⟨h4,h5⟩:=h3;refine ⟨?_,h5.imp id λ h5 s s' hs zm => ?_⟩
 ·unfold wI at h4
  simp only[Bool.or_eq_true,beq_iff_eq,m8,false_or]at h4;refine h4.imp id λ h6 => ?_
  simp only[Bool.and_eq_true,Bool.or_eq_true,Bool.not_eq_true']at h6;obtain ⟨⟨h7,h8⟩,h9⟩:=h6;refine ⟨λ t ht => ?_,h8,λ hr s hs => ?_⟩
  ·rw[ht]at h7
   simpa using h7
  ·rw[hr,hs]at h9
   simpa using h9
 ·rw[hs,zm]at h5
  simpa using h5
structure ZY (C:Cl) (ops:Array Oper) (l:List AI) (σ:Nat->St) (rs:List DH):Prop where
 ok:S6 ops l=true
 len:rs.length=l.length
 fits : ∀ (k:Nat) (x:AI) (r:DH),l[k]? = some x->rs[k]? = some r->VX C x r (σ k) (σ (k+1))
variable {ops:Array Oper} {l:List AI} {σ:Nat->St} {rs:List DH}
theorem iQ {X:Nat->Bool} : ∀ (l:List DH) (k:Nat) (x:D),(∀ i,i<l.length->X (k+i)=false)->C9 X l k x=x
 | [],_,_,_=>rfl
 | r::q,k,x,h=>by
  simp only[C9];rw[show X k=false by simpa using h 0 (by simp)];exact iQ q (k+1) _ λ i hi=>by
   have:=h (i+1) (by simpa using hi)
   rw[show k+1+i=k+(i+1) by omega];exact this
def d0 (σ:Nat->St):D:=(g7 (σ 0).tm,(σ 0).own)
theorem gM (h:ZY C ops l σ rs) : ∀ k,k<=l.length->C9 (λ j=>decide (j<k)) rs 0 (d0 σ)=(g7 (σ k).tm,(σ k).own)
 | 0,_=>iQ rs 0 _ λ i _=>by simp
 | k+1,hk=>by
  have oa:k<l.length:=by omega
  have hkr:k<rs.length:=by rw[h.len];exact oa
  have hr:rs[k]? = some rs[k]:=zE hkr;have hf:=h.fits k l[k] rs[k] (zE oa) hr;rw[sX (X:=λ j=>decide (j<k)) (X':=λ j=>decide (j<k+1)) hr (by simp) (λ j=>by
   by_cases h1:j=k
   ·simp [h1]
   ·simp [h1];omega) _ (λ j r' _ m9 hX=>by simp at hX;omega),gM h k (by omega)]
  exact hf.act.symm
section
variable {X:Nat->Bool} {i:Nat} {x:AI} {r:DH}
theorem wG (hX:VW ops X) (mg:X i=false) (ep : ∀ o,ops[i]? = some o -> ∀ e∈o.after,Region.binds .any e=true->X e.on=true) {j:Nat} (m8:i≠j) (ho:HR (Region.before ops) i j=true):X j=decide (j<i):=by
 rcases Nat.lt_or_gt_of_ne m8 with m9|rh
 ·have:X j=false:=by
   cases hj:X j with
   | false=>rfl
   | true=>have:=wF hX hj m9 ho;rw[mg]at this;cases this
  rw[this];simp;omega
 ·rw[AgW hX ep rh ho];simp;omega
theorem Zv (h:ZY C ops l σ rs) (hx:l[i]? = some x) (hr:rs[i]? = some r) (hX:VW ops X) (mg:X i=false) (ep : ∀ o,ops[i]? = some o -> ∀ e∈o.after,Region.binds .any e=true->X e.on=true) :
  KI (C9 X rs 0 (d0 σ)).1 x.guard=some r.g/\(r.g=true->g6 C x.c7 (D6 (C9 X rs 0 (d0 σ)).1) (C9 X rs 0 (d0 σ)).2 x.op=some r.E) /\
  (if r.g then r.E.valOf (C9 X rs 0 (d0 σ)).2 else .l6 [])=r.v /\
  ∀ X':Nat->Bool,(∀ j,X' j=(decide (j=i)||X j))->C9 X' rs 0 (d0 σ)=r.act (C9 X rs 0 (d0 σ)):=by
 have aw:i<l.length:=(zS hx).1;have hf:=h.fits i x r hx hr;have zt:=gM h i (by omega);generalize hT:C9 X rs 0 (d0 σ)=TX;have db : ∀ (j:Nat) (r':DH),rs[j]? = some r' -> ∃ y,l[j]? = some y/\VX C y r' (σ j) (σ (j+1)):=λ j r' hj=>by
  have dv:j<l.length:=by rw[<-h.len];exact (zS hj).1
  exact ⟨l[j],zE dv,h.fits j _ _ (zE dv) hj⟩
 have zq : ∀ t∈WT x,TX.1 t=g7 (σ i).tm t:=λ t ht=>by
  have:=sZ (X:=X) (Y:=λ j=>decide (j<i)) (t:=t) rs 0 (d0 σ) (d0 σ) rfl (λ j r' hj hd=>by
   simp only[Nat.zero_add];by_cases m8:i=j
   ·subst m8;simp [mg]
   ·obtain ⟨y,hy,gu⟩:=db j r' hj
    rcases (TA h.ok hx hy m8).1 with ho|⟨h1,_⟩
    ·exact wG hX mg ep m8 ho
    ·exact absurd ht (h1 t (by rw[<-gu.d];exact hd)))
  rw[hT,zt]at this;exact this
 have Ga : ∀ t∈HF x.op,TX.1 t=g7 (σ i).tm t:=λ t ht=>zq t (by simp [WT,ht])
 have ft : ∀ s,(∀ (j:Nat) (y:AI) (r':DH),i≠j->l[j]? = some y->rs[j]? = some r'->HR (Region.before ops) i j=true \/ ∀ o,r'.own o s=o s)->TX.2 s=(σ i).own s:=λ s hs=>by
  have:=sY (X:=X) (Y:=λ j=>decide (j<i)) (s:=s) rs 0 (d0 σ) (d0 σ) rfl (λ j r' hj=>by
   simp only[Nat.zero_add];by_cases m8:i=j
   ·subst m8;left;simp [mg]
   ·obtain ⟨y,hy,gu⟩:=db j r' hj
    rcases hs j y r' m8 hy hj with ho|ho
    ·exact .inl (wG hX mg ep m8 ho)
    ·exact .inr ho)
  rw[hT,zt]at this;exact this
 have ni : ∀ (j:Nat) (y:AI) (r':DH),l[j]? = some y->rs[j]? = some r'->JX y.op=false -> ∀ o,r'.own o=o:=λ j y r' hy hj hm o=>by
  simp only[JX,Bool.or_eq_false_iff]at hm;exact U9 (h.fits j y r' hy hj) hm.1.1 (by simpa using hm.2) o
 have Fo : ∀ (j:Nat) (y:AI),i≠j->l[j]? = some y->GC y.op=true->JX x.op=true->HR (Region.before ops) i j=true:=λ j y m8 hy ht jy=>by
  rcases (TA h.ok hy hx (Ne.symm m8)).1 with ho|⟨_,h2,_⟩
  ·rw[wE];exact ho
  ·rw[ht,jy]at h2;simp at h2
 have hg:KI TX.1 x.guard=some r.g:=by
  rw[<-hf.g];cases Co:x.guard with
  | none=>rfl
  | some gw =>
   obtain ⟨g,w⟩:=gw;simp only[KI];rw[zq g (by simp [WT,Co])]
 have zw:GC x.op=true->TX.2=(σ i).own:=λ ht=>by
  funext s
  refine ft s λ j y r' m8 hy hj => ?_
  cases hm:JX y.op with
  | false=>exact .inr λ o=>by rw[ni j y r' hy hj hm o]
  | true =>
   rcases (TA h.ok hx hy m8).1 with ho|⟨_,h2,_⟩
   ·exact .inl ho
   ·rw[ht,hm]at h2;simp at h2
 have Fl:ZE x.op=true->TX.2.o3 x.c7=(σ i).own.o3 x.c7:=λ mo=>by
  refine Afj λ s hs=>ft s λ j y r' m8 hy hj => ?_
  have jy:JX x.op=true:=by simp [JX,mo]
  cases ht:GC y.op with
  | true=>exact .inl (Fo j y m8 hy ht jy)
  | false =>
   cases kb:EG y.op with
   | none=>exact .inr λ o=>by rw[U9 (h.fits j y r' hy hj) ht kb o]
   | some q =>
    rcases (TA h.ok hx hy m8).1 with ho|⟨_,_,h3⟩
    ·exact .inl ho
    ·exact .inr λ o=>wV (h.fits j y r' hy hj) kb (p:=s) (λ e=>hs (by rw[e];exact h3 mo q kb)) o
 have zn : ∀ s,EG x.op=some s->TX.2 s=(σ i).own s:=λ s ve=>by
  have jy:JX x.op=true:=by simp [JX,ve]
  exact ft s λ j y r' m8 hy hj=>by
   cases ht:GC y.op with
   | true=>exact .inl (Fo j y m8 hy ht jy)
   | false =>
    cases kb:EG y.op with
    | none=>exact .inr λ o=>by rw[U9 (h.fits j y r' hy hj) ht kb o]
    | some q =>
     rcases (TA h.ok hx hy m8).2 with ho|Bi
     ·exact .inl ho
     ·exact .inr λ o=>wV (h.fits j y r' hy hj) kb (Bi s q ve kb) o
 have Ju:r.g=true->g6 C x.c7 (D6 TX.1) TX.2 x.op=some r.E:=λ fh=>by
  rw[Yd Ga,<-hf.E fh];cases ht:GC x.op with
  | true=>rw[zw ht]
  | false=>exact Yg _ _ ht Fl zn
 have hval:(if r.g then r.E.valOf TX.2 else .l6 [])=r.v:=by
  rw[hf.v];cases Ns:r.g with
  | false=>rfl
  | true =>
   simp only[if_true];cases ve:EG x.op with
   | none =>
    cases ht:GC x.op with
    | true=>rw[zw ht]
    | false =>
     obtain ⟨v,hv⟩:=qV (hf.E Ns) ht ve;rw[hv];rfl
   | some s =>
    have Bi:=zn s ve;rcases qU (hf.E Ns) ve with ⟨b,v,hv|hv⟩|⟨x,v,hv|hv⟩<;>rw[hv]<;>simp only[B3.valOf,AH.g8,Bi]
 refine ⟨hg,Ju,hval,λ X' vp => ?_⟩;rw[<-hT];refine sX hr mg vp _ λ j r' hj m9 Iq z => ?_
 obtain ⟨y,hy,gu⟩:=db j r' hj;have m8:i≠j:=by omega
 have Kn : ¬ HR (Region.before ops) i j=true:=λ ho=>by
  have:=wF hX Iq m9 ho
  rw[mg]at this;cases this
 obtain ⟨Ks,Cr⟩:=TA h.ok hx hy m8;obtain ⟨zk,Ct⟩:=TA h.ok hy hx (Ne.symm m8);have hp:=Ks.resolve_left Kn;have hq:=zk.resolve_left (by rw[wE];exact Kn);unfold DH.act;refine Prod.ext ?_ ?_
 ·funext t
  simp only[IM];by_cases h1:r'.d=some t<;>by_cases h2:r.d=some t
  ·exact absurd (by rw[hf.d]at h2;simp [WT,h2]) (hp.1 t (by rw[<-gu.d];exact h1))
  ·simp [h1,h2]
  ·simp [h1,h2]
  ·simp [h1,h2]
 ·show r'.own (r.own z.2)=r.own (r'.own z.2)
  cases jy:JX x.op with
  | false=>rw[ni i x r hx hr jy,ni i x r hx hr jy]
  | true =>
   cases qp:JX y.op with
   | false=>rw[ni j y r' hy hj qp,ni j y r' hy hj qp]
   | true =>
    have Ot:GC x.op=false:=by
     rcases hp.2.1 with h1|h1
     ·exact h1
     ·rw[qp]at h1;cases h1
    have Ou:GC y.op=false:=by
     rcases hq.2.1 with h1|h1
     ·exact h1
     ·rw[jy]at h1;cases h1
    cases ve:EG x.op with
    | none=>rw[U9 hf Ot ve,U9 hf Ot ve]
    | some s =>
     cases kb:EG y.op with
     | none=>rw[U9 gu Ou kb,U9 gu Ou kb]
     | some s' =>
      have Bi:=(Cr.resolve_left Kn) s s' ve kb;rcases kN hf ve with h1|⟨b,h1⟩
      ·rw[h1,h1]
      ·rcases kN gu kb with h2|⟨b',h2⟩
       ·rw[h2,h2]
       ·rw[h1,h2,h2,h1]
        funext q
        simp only[AH.put];by_cases Kw:q=s<;>by_cases Be:q=s'
        ·exact absurd (Kw.symm.trans Be) Bi
        ·simp [Kw,Bi]
        ·simp [Be,Ne.symm Bi]
        ·simp [Kw,Be]
end
end
end Go.e8

namespace Go.e8
open Go.RowKit
section
variable {ops:Array Oper} {md:Region.Mode}
theorem Tz {e:Edge} (h:Region.binds .any e=true) (md:Region.Mode):Region.binds md e=true:=by
 unfold Region.binds at *;split at h<;>simp_all
theorem uT (ops:Array Oper) (md:Region.Mode) : ∀ (fuel t:Nat) (c5:Array Bool),c5.size=ops.size -> ∀ (k i:Nat),(Region.linearise.go md ops fuel t c5 [])[k]? = some i ->
  ∃ o,ops[i]? = some o /\ ∀ e∈o.after,Region.binds md e=true->c5.getD e.on false=true\/e.on∈(Region.linearise.go md ops fuel t c5 []).take k
 | 0,t,c5,hs,k,i,h=>by simp [Region.linearise.go]at h
 | fuel+1,t,c5,hs,k,i,h=>by
  have qm:Region.linearise.go md ops (fuel+1) t c5 []=match (Region.ready md ops c5)[t%(Region.ready md ops c5).length]? with
   | some i=>i::Region.linearise.go md ops fuel (t/(Region.ready md ops c5).length) (c5.setIfInBounds i true) []
   | none=>[]:=by
   simp only[Region.linearise.go];change (match (Region.ready md ops c5)[t%(Region.ready md ops c5).length]? with
    | some i=>Region.linearise.go md ops fuel (t/(Region.ready md ops c5).length) (c5.setIfInBounds i true) [i]
    | none=>[].reverse)=_
   cases (Region.ready md ops c5)[t%(Region.ready md ops c5).length]? with
   | none=>rfl
   | some i=>simp only[];rw[linearise_go_acc];rfl
  rw[qm]at h ⊢;cases hr:(Region.ready md ops c5)[t%(Region.ready md ops c5).length]? with
  | none=>rw[hr]at h;simp at h
  | some q =>
   rw[hr]at h;simp only at h ⊢;obtain ⟨_,oq,hoq,hq⟩:=mem_ready.1 (zM hr);cases k with
   | zero =>
    simp at h;subst h;exact ⟨oq,hoq,λ e he hb => .inl (hq e he hb)⟩
   | succ k =>
    simp at h;obtain ⟨o,ho,hh⟩:=uT ops md fuel _ _ (by simpa using hs) k i h;refine ⟨o,ho,λ e he hb => ?_⟩;rcases hh e he hb with h1|h1
    ·by_cases heq:e.on=q
     ·right;simp [heq]
     ·left
      rw[getD_set_ne false (Ne.symm heq)]at h1;exact h1
    ·right;simp [h1]
theorem iL {p:Nat->Bool} : ∀ (l:List Nat),(∃ i∈l,p i=false) -> ∃ k i,l[k]? = some i/\p i=false /\ ∀ j∈l.take k,p j=true
 | [],⟨i,hi,_⟩=>by simp at hi
 | x::r,⟨i,hi,hp⟩=>by
  cases hx:p x with
  | false=>exact ⟨0,x,rfl,hx,by simp⟩
  | true =>
   have : ∃ i∈r,p i=false:=by
    rcases List.mem_cons.1 hi with h|h
    ·subst h;rw[hx]at hp;cases hp
    ·exact ⟨i,h,hp⟩
   obtain ⟨k,j,h1,h2,h3⟩:=iL r this;refine ⟨k+1,j,by simpa using h1,h2,λ q hq => ?_⟩;simp only[List.take_succ_cons,List.mem_cons]at hq;rcases hq with h|h
   ·subst h;exact hx
   ·exact h3 q h
theorem progress {l:List AI} (hd:S6 ops l=true) (Ez:md = .gc->Region.departs ops=true) {c5:Array Bool} (hs:c5.size=ops.size) (hr:Region.ready md ops c5=[]) : ∀ j,j<ops.size->c5.getD j false=true:=by
 intro j hj;cases dv:c5.getD j false with
 | true=>rfl
 | false =>
  exfalso;simp only[S6,Bool.and_eq_true]at hd;obtain ⟨⟨_,iy⟩,uh⟩:=hd;have nu : ∀ i,i<ops.size->c5.getD i false=false -> ¬ ∀ o,ops[i]? = some o -> ∀ e∈o.after,Region.binds md e=true->c5.getD e.on false=true:=λ i hi hl my=>by
   have:i∈Region.ready md ops c5:=mem_ready.2 ⟨by
    have:i<c5.size:=by omega
    simp [Array.getD,this]at hl ⊢;exact hl,ops[i],Array.getElem?_eq_getElem hi,λ e he hb=>my ops[i] (Array.getElem?_eq_getElem hi) e he hb⟩
   rw[hr]at this;simp at this
  by_cases Ha:md = .gc
  ·subst Ha
   rw[Ez rfl]at uh;simp only[Bool.not_true,Bool.false_or,List.all_eq_true,List.mem_range,List.contains_iff_mem]at uh;obtain ⟨k,i,h1,h2,h3⟩:=iL (p:=λ q=>c5.getD q false) (Region.linearise .gc ops 0) ⟨j,uh j hj,dv⟩;obtain ⟨o,ho,hh⟩:=uT ops .gc ops.size 0 (Array.replicate ops.size false) (by simp) k i h1;have hi:i<ops.size:=(Array.getElem?_eq_some_iff.1 ho).1;refine nu i hi h2 λ o' xu e he hb => ?_
   rw[ho]at xu;obtain rfl:o=o':=by simpa using xu
   rcases hh e he hb with h4|h4
   ·simp [Array.getD]at h4
   ·exact h3 e.on h4
  ·obtain ⟨k,i,h1,h2,h3⟩:=iL (p:=λ q=>c5.getD q false) (List.range ops.size) ⟨j,by simpa using hj,dv⟩
   have nj:i=k:=by
    have oa:k<ops.size:=by have:=(zS h1).1;simpa using this
    rw[List.getElem?_range oa]at h1;simpa using h1.symm
   subst nj;have hi:i<ops.size:=by have:=(zS h1).1;simpa using this
   refine nu i hi h2 λ o ho e he hb => ?_
   rw[List.all_eq_true]at iy;have ri:(o,i)∈ops.toList.zipIdx:=List.mem_zipIdx_iff_getElem?.2 (by simpa using ho);have h4:=iy (o,i) ri;simp only[Array.all_eq_true_iff_forall_mem,Bool.or_eq_true,decide_eq_true_eq]at h4;rcases h4 e he with h5|h5
   ·exact h3 e.on (by rw[List.take_range];simp;omega)
   ·exfalso
    unfold Region.binds at hb;split at h5
    ·rename_i row Lc
     rw[Lc]at hb;simp at hb;exact Ha hb
    ·cases h5
variable {B:Nat} {S:Nat->Prop} {w0:World} {m0:M} {N:Nat}
variable {P:Program} {num:Nat->Nat} {C:Cl} {Q:Exit->Act->World->Prop}
def VM (c5:Array Bool) (n:Nat):Nat:=(List.range n).countP (λ j => !c5.getD j false)
theorem pK {α:Type} {p q:α->Bool} : ∀ {l:List α} {x:α},(∀ y∈l,q y=true->p y=true)->x∈l->p x=true->q x=false->l.countP q<l.countP p
 | [],x,_,hx,_,_=>by simp at hx
 | y::r,x,h,hx,hp,hq=>by
  have hle:r.countP q<=r.countP p:=List.countP_mono_left λ z hz hqz=>h z (by simp [hz]) hqz
  rw[List.countP_cons,List.countP_cons];rcases List.mem_cons.1 hx with rfl|hx
  ·simp only[hp,hq,if_true,Bool.false_eq_true,if_false]
   omega
  ·have:=pK (l:=r) (λ z hz=>h z (by simp [hz])) hx hp hq
   by_cases Kx:q y=true
   ·simp only[Kx,h y (by simp) Kx,if_true];omega
   ·simp only[Kx,Bool.false_eq_true,if_false]
    split<;>omega
theorem AiI (hC:GD P num C) {l:List AI} (m4:P3 P num N ops ops.toList l=true) {σ:Nat->St} {rs:List DH} (h:ZY C ops l σ rs) (Ez:md = .gc->Region.departs ops=true)
  (hQ : ∀ m' a',m'.own=(σ l.length).own->FA B S w0 m0 N (g7 (σ l.length).tm) m' a'->Q .normal a' m'.w) :
  ∀ (fuel:Nat) (c5:Array Bool) (a:Act) (m:M),c5.size=ops.size->VM c5 ops.size<=fuel->VW ops (λ j=>c5.getD j false)->m.own=(C9 (λ j=>c5.getD j false) rs 0 (d0 σ)).2->FA B S w0 m0 N (C9 (λ j=>c5.getD j false) rs 0 (d0 σ)).1 m a->wpAny P md ops Q fuel c5 a m.w:=by
 have hlen:ops.size=l.length:=by have:=(Y2 m4).1;simpa using this
 have final : ∀ (c5:Array Bool) (a:Act) (m:M),(∀ j,j<ops.size->c5.getD j false=true)->m.own=(C9 (λ j=>c5.getD j false) rs 0 (d0 σ)).2->FA B S w0 m0 N (C9 (λ j=>c5.getD j false) rs 0 (d0 σ)).1 m a->Q .normal a m.w:=λ c5 a m my m6 hf=>by
  have:C9 (λ j=>c5.getD j false) rs 0 (d0 σ)=(g7 (σ l.length).tm,(σ l.length).own):=by
   rw[<-gM h l.length (Nat.le_refl _)];refine bJ rs 0 _ λ i hi => ?_
   simp only[Nat.zero_add];rw[my i (by rw[hlen,<-h.len];exact hi)];simp;rw[<-h.len];exact hi
  rw[this]at m6 hf;exact hQ m a m6 hf
 have Dd : ∀ c5:Array Bool,VM c5 ops.size<=0 -> ∀ j,j<ops.size->c5.getD j false=true:=λ c5 h0 j hj=>by
  have h1:VM c5 ops.size=0:=by omega
  unfold VM at h1;rw[List.countP_eq_zero]at h1;simpa using h1 j (by simpa using hj)
 intro fuel;induction fuel with
 | zero =>
  intro c5 a m w6 hn Jq m6 hf;refine ⟨?_,final c5 a m (Dd c5 hn) m6 hf⟩;cases hr:Region.ready md ops c5 with
  | nil=>rfl
  | cons i r =>
   obtain ⟨h1,o,ho,_⟩:=mem_ready.1 (show i∈Region.ready md ops c5 by rw[hr];simp);have hi:i<ops.size:=(Array.getElem?_eq_some_iff.1 ho).1;have h2:=Dd c5 hn i hi;have aw:i<c5.size:=by omega
   simp [Array.getD,aw]at h1 h2;rw[h1]at h2;cases h2
 | succ fuel ih =>
  intro c5 a m w6 hn Jq m6 hf;refine ⟨λ hr=>final c5 a m (progress h.ok Ez w6 hr) m6 hf,λ i hi => ?_⟩;obtain ⟨h1,o,ho,Av⟩:=mem_ready.1 hi;have hio:i<ops.size:=(Array.getElem?_eq_some_iff.1 ho).1;have aw:i<c5.size:=by omega
  have uf:c5.getD i false=false:=by
   simp [Array.getD,aw]at h1 ⊢;exact h1
  have xp:i<l.length:=by omega
  have bk:i<rs.length:=by rw[h.len];exact xp
  have hx:l[i]? = some l[i]:=zE xp;have hr:rs[i]? = some rs[i]:=zE bk;have ep : ∀ o',ops[i]? = some o' -> ∀ e∈o'.after,Region.binds .any e=true->c5.getD e.on false=true:=λ o' xu e he hb=>by
   rw[ho]at xu;obtain rfl:o=o':=by simpa using xu
   exact Av e he (Tz hb md)
  obtain ⟨g1,g2,g3,g4⟩:=Zv h hx hr Jq uf ep;have Kq:=(Y2 m4).2 i o l[i] (by simpa using ho) hx;have vp : ∀ j,(c5.setIfInBounds i true).getD j false=(decide (j=i)||c5.getD j false):=λ j=>by
   by_cases Kc:j=i
   ·subst Kc;simp [Array.getD,aw]
   ·rw[getD_set_ne false (Ne.symm Kc)];simp [Kc]
  refine zY hC ho Kq hf g1 (λ hg=>by rw[m6];exact g2 hg) λ m' a' ko nf => ?_
  have ln:=g4 _ vp;refine ih (c5.setIfInBounds i true) a' m' (by simpa using w6) ?_ ?_ ?_ ?_
  ·have m9:VM (c5.setIfInBounds i true) ops.size<VM c5 ops.size:=by
    refine pK (x:=i) (λ j _ hj => ?_) (by simpa using hio) (by simp [uf]) (by rw[vp];simp);rw[vp]at hj;simp at hj ⊢;exact hj.2
   omega
  ·intro j oj hj Hg e he hb
   change (c5.setIfInBounds i true).getD j false=true at hj;show (c5.setIfInBounds i true).getD e.on false=true;rw[vp]at hj ⊢;simp only[Bool.or_eq_true,decide_eq_true_eq]at hj ⊢;rcases hj with rfl|hj
   ·exact .inr (ep oj Hg e he hb)
   ·exact .inr (Jq j oj hj Hg e he hb)
  ·rw[ln,ko,m6]
   rfl
  ·rw[ln]
   rw[m6,g3]at nf;have hd:(l[i]).dst=(rs[i]).d:=(h.fits i _ _ hx hr).d.symm;rw[hd]at nf;exact nf
theorem AiJ (hC:GD P num C) {id:Nat} {l:List AI} (m4:P3 P num N ops ops.toList l=true) (hd:S6 ops l=true) {st l9:St} (m5:CU C l st=some l9) {m:M} {a:Act} (m6:m.own=st.own) (hf:FA B S w0 m0 N (g7 st.tm) m a)
  (hQ : ∀ m' a',m'.own=l9.own->FA B S w0 m0 N (g7 l9.tm) m' a'->Q .normal a' m'.w):(Code.region id ops true).wp P Q a m.w:=by
 obtain ⟨σ,rs,h0,h1,hl,h2⟩:=trace m5;have hD:ZY C ops l σ rs:=⟨hd,hl,h2⟩;obtain ⟨lk,xj⟩:=grow hf.mem ((Below.refl m.w.heap.size m.w).drew);have uc:FA B S w0 m0 N (g7 st.tm) ⟨m.ν,m.own,m.w.drew⟩ a:=⟨lk,hf.ext.trans xj,λ i=>xj.cv (hf.tm i),hf.size,hf.defers⟩;have Mu:C9 (λ j=>(Array.replicate ops.size false).getD j false) rs 0 (d0 σ)=d0 σ:=iQ rs 0 _ λ i _=>by simp [Array.getD]
 have key : ∀ md:Region.Mode,(md = .gc->Region.departs ops=true) -> ∀ t,wpOps P ops Q (Region.linearise md ops t) a m.w.drew:=λ md Ez t=>by
  refine wpAny_sound ops.size t (Array.replicate ops.size false) a m.w.drew ?_;refine AiI hC m4 hD Ez (by rw[h1];exact hQ) ops.size _ a ⟨m.ν,m.own,m.w.drew⟩ (by simp) ?_ ?_ ?_ ?_
  ·unfold VM
   exact Nat.le_trans List.countP_le_length (by simp)
  ·intro j o hj
   simp [Array.getD]at hj
  ·rw[Mu];simp [d0,h0,m6]
  ·rw[Mu];simpa [d0,h0] using uc
 refine wp_region_draw λ t => ?_
 change wpOps P ops Q _ a m.w.drew;unfold Region.schedule;split
 ·exact key .any (λ h=>by cases h) t
 ·rename_i El
  have Nl:Region.departs ops=true:=by simp at El;exact El.2
  split
  ·exact key .text (λ_=>Nl) _
  ·exact key .gc (λ_=>Nl) _
end
end Go.e8

namespace Go.e8
open Go.RowKit
section
variable {B:Nat} {S:Nat->Prop} {w0:World} {m0:M} {N:Nat}
variable {P:Program} {num:Nat->Nat} {C:Cl}
theorem Aip (m:Tm) (l:List Nat) (j:Nat):g7 (bg m l) j=g7 m j\/g7 (bg m l) j = .any:=by
 induction m with
 | nil=>exact .inl rfl
 | cons x r ih =>
  obtain ⟨i,v⟩:=x;simp only[bg];split
  ·by_cases h:j=i
   ·subst h
    rename_i hc;right
    clear ih;induction r with
    | nil=>rfl
    | cons y q ih =>
     obtain ⟨k,u⟩:=y;simp only[bg];split
     ·exact ih
     ·rename_i hk
      have : ¬ j=k:=λ e=>by subst e;exact hk hc
      simp only[g7,if_neg this];exact ih
   ·rcases ih with h1|h1
    ·left;simp only[g7,if_neg h];exact h1
    ·right;exact h1
  ·by_cases h:j=i
   ·left;simp [g7,h]
   ·simp only[g7,if_neg h]
    exact ih
inductive HI (P:Program) (num:Nat->Nat) (N:Nat):List It->List Item->Prop
 | nil:HI P num N [] []
 | code {c:Code} {a:A9} {k:List It} {t:List Item} (h:EK P num N c a=true) (hk:HI P num N k t):HI P num N (.code a::k) (.code c::t)
 | drop {ts ss:List Nat} {k:List It} {t:List Item} (hk:HI P num N k t):HI P num N (.kf ts ss::k) t
 | e7 {id:Nat} {k:List It} {t:List Item} (hk:HI P num N k t):HI P num N (.e7 id::k) (.inBlock id::t)
 | lp {c:Code} {a:A9} {k:List It} {t:List Item} (h:EK P num N c a=true) (hk:HI P num N k t):HI P num N (.lp a::k) (.inLoop c::t)
 | scope {c:Code} {k:List It} {t:List Item} (hk:HI P num N k t):HI P num N k (.inScope c::t)
theorem yQ {b:Frame} {a:Act} {k:List Item} {cs:List Frame} {w:World} {c:Code}:step P (lone (b.at a (.inScope c::k)) cs w) = .next (lone (b.at a k) cs w) :=
 step_lone_go (by simp [stepG,stepG.exec,Frame.at])
theorem Aih {b:Frame} {a:Act} {k:List Item} {cs:List Frame} {w:World} {c:Code}:step P (lone (b.at a (.code (.scope c)::k)) cs w) = .next (lone (b.at a (.code c :: .inScope c::k)) cs w) :=
 step_lone_go (by simp [stepG,stepG.exec,Frame.at])
theorem WN {id:Nat} : ∀ {k:List It} {t:List Item},HI P num N k t -> ∀ {k':List It},DC id k=some k' -> ∃ t',exitTo id t=some t'/\HI P num N k' t'
 | _,_,.nil,k',h=>by simp [DC]at h
 | _,_,.code h0 hk,k',h=>by
  simp only[DC]at h;obtain ⟨t',h1,h2⟩:=WN hk h;exact ⟨t',by simpa [exitTo] using h1,h2⟩
 | _,_,.drop hk,k',h=>by
  simp only[DC]at h;exact WN hk h
 | _,_,.e7 (id:=Hs) hk,k',h=>by
  simp only[DC]at h;split at h
  ·rename_i he
   subst he;simp only[Option.some.injEq]at h;subst h;exact ⟨_,by simp [exitTo],hk⟩
  ·rename_i he
   obtain ⟨t',h1,h2⟩:=WN hk h;exact ⟨t',by simpa [exitTo,he] using h1,h2⟩
 | _,_,.lp h0 hk,k',h=>by
  simp only[DC]at h;obtain ⟨t',h1,h2⟩:=WN hk h;exact ⟨t',by simpa [exitTo] using h1,h2⟩
 | _,_,.scope hk,k',h=>by
  obtain ⟨t',h1,h2⟩:=WN hk h;exact ⟨t',by simpa [exitTo] using h1,h2⟩
def mW (B:Nat) (S:Nat->Prop) (w0:World) (m0:M) (N:Nat) (P:Program) (b:Frame) (cs:List Frame) (Me:Machine) (l9:St):Prop :=
 ∃ a' m' o6,Steps P Me (lone { b.at a' o6 with mode := .returning } cs m'.w)/\m'.own=l9.own/\FA B S w0 m0 N (g7 l9.tm) m' a'
theorem AhH (hC:GD P num C) (b:Frame) (cs:List Frame) : ∀ (n:Nat) (k:List It) (st l9:St),run C n k st=some l9 -> ∀ (t:List Item),HI P num N k t -> ∀ (m:M) (a:Act),m.own=st.own->FA B S w0 m0 N (g7 st.tm) m a ->
  mW B S w0 m0 N P b cs (lone (b.at a t) cs m.w) l9:=by
 intro n;induction n with
 | zero=>intro k st l9 h;simp [run]at h
 | succ n ih =>
  intro k st l9 h t ht;have fin : ∀ (t:List Item),HI P num N [] t -> ∀ (m:M) (a:Act),m.own=st.own->FA B S w0 m0 N (g7 st.tm) m a->st=l9->mW B S w0 m0 N P b cs (lone (b.at a t) cs m.w) l9:=by
   intro t ht;generalize hk:([]:List It)=kk at ht;induction ht with
   | nil =>
    intro m a m6 hf he;subst he;exact ⟨a,m,[],.one step_end,m6,hf⟩
   | scope ik oi =>
    intro m a m6 hf he;obtain ⟨a',m',o6,h1,h2⟩:=oi hk m a m6 hf he;exact ⟨a',m',o6,.head yQ h1,h2⟩
   | code=>cases hk
   | drop=>cases hk
   | e7=>cases hk
   | lp=>cases hk
  cases k with
  | nil =>
   intro m a m6 hf;simp only[run,Option.some.injEq]at h;exact fin t ht m a m6 hf h
  | cons it k =>
   generalize il:it::k=kk at ht;induction ht with
   | nil=>cases il
   | scope ik oi =>
    intro m a m6 hf;obtain ⟨a',m',o6,h1,h2⟩:=oi il m a m6 hf;exact ⟨a',m',o6,.head yQ h1,h2⟩
   | @e7 id k2 t2 ik oi =>
    intro m a m6 hf;obtain ⟨rfl,rfl⟩:it = .e7 id/\k=k2:=by simpa using il
    simp only[run]at h;obtain ⟨a',m',o6,h1,h2⟩:=ih k st l9 h t2 ik m a m6 hf;exact ⟨a',m',o6,.head step_inBlock h1,h2⟩
   | @lp c ac k2 t2 m4 ik oi =>
    intro m a m6 hf;obtain ⟨rfl,rfl⟩:it = .lp ac/\k=k2:=by simpa using il
    simp only[run]at h;obtain ⟨a',m',o6,h1,h2⟩:=ih _ st l9 h (.code c :: .inLoop c::t2) (.code m4 (.lp m4 ik)) m a m6 hf;exact ⟨a',m',o6,.head step_inLoop h1,h2⟩
   | @drop ts ss k2 t2 ik oi =>
    intro m a m6 hf;obtain ⟨rfl,rfl⟩:it = .kf ts ss/\k=k2:=by simpa using il
    simp only[run]at h;obtain ⟨mj,he⟩:=Xz hf.mem ss;have nf:FA B S w0 m0 N (g7 (bg st.tm ts)) ⟨m.ν,m.own.drop ss,m.w⟩ a:=⟨mj,hf.ext.trans he,λ i=>by
     rcases Aip st.tm ts i with h1|h1
     ·rw[h1];exact he.cv (hf.tm i)
     ·rw[h1];exact .any _,hf.size,hf.defers⟩
    obtain ⟨a',m',o6,h1,h2,h3⟩:=ih k ⟨bg st.tm ts,st.own.drop ss⟩ l9 h t2 ik ⟨m.ν,m.own.drop ss,m.w⟩ a (by simp [m6]) nf;exact ⟨a',m',o6,h1,h2,h3⟩
   | @code c ac k2 t2 m4 ik oi =>
    obtain ⟨rfl,rfl⟩:it = .code ac/\k=k2:=by simpa using il
    clear oi il;intro m a m6 hf;cases ac with
    | dr ac ts ss =>
     simp only[EK]at m4;simp only[run]at h;exact ih _ st l9 h _ (.code m4 (.drop ik)) m a m6 hf
    | skip =>
     simp only[run]at h;cases c with
     | skip =>
      obtain ⟨a',m',o6,h1,h2⟩:=ih _ st l9 h _ ik m a m6 hf;exact ⟨a',m',o6,.head step_skip h1,h2⟩
     | label =>
      obtain ⟨a',m',o6,h1,h2⟩:=ih _ st l9 h _ ik m a m6 hf;exact ⟨a',m',o6,.head step_label h1,h2⟩
     | _=>simp [EK]at m4
    | scope ac =>
     simp only[run]at h;cases c with
     | scope c =>
      simp only[EK]at m4;obtain ⟨a',m',o6,h1,h2⟩:=ih _ st l9 h _ (.code m4 (.scope (c:=c) ik)) m a m6 hf;exact ⟨a',m',o6,.head Aih h1,h2⟩
     | _=>simp [EK]at m4
    | seq a1 a2 =>
     simp only[run]at h;cases c with
     | seq c1 c2 =>
      simp only[EK,Bool.and_eq_true]at m4;obtain ⟨a',m',o6,h1,h2⟩:=ih _ st l9 h _ (.code m4.1 (.code m4.2 ik)) m a m6 hf;exact ⟨a',m',o6,.head step_seq h1,h2⟩
     | _=>simp [EK]at m4
    | cond x a1 a2 =>
     simp only[run]at h;cases c with
     | cond xc c1 c2 =>
      simp only[EK,Bool.and_eq_true]at m4;have w5:CV B S m (st.ev x) (a.eval xc):=by rw[rI];exact hf.says xc x m4.1.1
      split at h
      ·rename_i hx
       rw[hx]at w5;obtain ⟨a',m',o6,h1,h2⟩:=ih _ st l9 h _ (.code m4.1.2 ik) m a m6 hf;exact ⟨a',m',o6,.head (step_cond (SY w5)) h1,h2⟩
      ·rename_i hx
       rw[hx]at w5;obtain ⟨a',m',o6,h1,h2⟩:=ih _ st l9 h _ (.code m4.2 ik) m a m6 hf;exact ⟨a',m',o6,.head (step_cond (SY w5)) h1,h2⟩
      ·cases h
     | _=>simp [EK]at m4
    | block id ac =>
     simp only[run]at h;cases c with
     | block Hs c =>
      simp only[EK,Bool.and_eq_true,beq_iff_eq]at m4;obtain ⟨rfl,m4⟩:=m4;obtain ⟨a',m',o6,h1,h2⟩:=ih _ st l9 h _ (.code m4 (.e7 ik)) m a m6 hf;exact ⟨a',m',o6,.head step_block h1,h2⟩
     | _=>simp [EK]at m4
    | loop ac =>
     simp only[run]at h;cases c with
     | loop c =>
      simp only[EK]at m4;obtain ⟨a',m',o6,h1,h2⟩:=ih _ st l9 h _ (.code m4 (.lp m4 ik)) m a m6 hf;exact ⟨a',m',o6,.head step_loop h1,h2⟩
     | _=>simp [EK]at m4
    | exit id =>
     simp only[run]at h;cases c with
     | exit Hs =>
      simp only[EK,beq_iff_eq]at m4;subst m4;split at h
      ·rename_i k' jd
       obtain ⟨t',e1,e2⟩:=WN ik jd;obtain ⟨a',m',o6,h1,h2⟩:=ih _ st l9 h _ e2 m a m6 hf;exact ⟨a',m',o6,.head (step_exit e1) h1,h2⟩
      ·cases h
     | _=>simp [EK]at m4
    | ret =>
     simp only[run,Option.some.injEq]at h;subst h;cases c with
     | ret=>exact ⟨a,m,.code .ret::t2,.one step_ret,m6,hf⟩
     | _=>simp [EK]at m4
    | ops l draw =>
     simp only[run]at h;split at h
     ·rename_i A4 Fw
      cases c with
      | region id ops qi =>
       simp only[EK,Bool.and_eq_true,beq_iff_eq]at m4;obtain ⟨⟨rfl,Fg⟩,pd⟩:=m4;have hwp:(Code.region id ops qi).wp P (λ e a' w'=>e = .normal /\ ∃ m',m'.w=w'/\m'.own=A4.own/\FA B S w0 m0 N (g7 A4.tm) m' a') a m.w:=by
        cases qi with
        | true=>exact AiJ hC Fg (by simpa using pd) Fw m6 hf λ m' a' h1 h2=>⟨rfl,m',rfl,h1,h2⟩
        | false =>
         refine wp_region ?_;rw[List.range_eq_range'];exact zZ hC Fg ops.size 0 st A4 m a (by omega) (by simpa using Fw) m6 hf λ m' a' h1 h2=>⟨rfl,m',rfl,h1,h2⟩
       obtain ⟨e,a1,w1,⟨rfl,m1,rfl,Fi,uc⟩,Jb⟩:=hwp b t2 cs;obtain ⟨a',m',o6,h1,h2,h3⟩:=ih _ A4 l9 h _ ik m1 a1 Fi uc;exact ⟨a',m',o6,Steps.trans Jb h1,h2,h3⟩
      | _=>simp [EK]at m4
     ·cases h
end
end Go.e8
