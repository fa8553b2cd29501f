/-
  Functions: what the abstract machine says of a call, the model does.
-/
import Derived.Test.YthgjfcjecnmflaaGreatB4
import Derived.Test.YthgjfcjecnmflaaGreatB1
import Derived.IntWalk
set_option linter.unusedSimpArgs false
set_option linter.unusedVariables false
set_option linter.unnecessarySimpa false
namespace Go.e6
open Go.RowKit
section
variable {P:Program} {num:Nat->Nat} {L:Lib}
def ProgOK (P : Program) (num : Nat → Nat) (L : Lib) : Prop := (∀ f fa, L f = some fa → ∃ fn, P.funcs[num f]? = some fn ∧ okFn P num fn fa = true ∧ (fn.name == "runtime.NumGoroutine") = false) ∧ L.num = num
theorem yO : ∀ (args:List AV) (k i:Nat),g6 (D7 k args) i=if k<=i then (match args[i-k]? with|some v=>v|none => .any) else .any
 | [],k,i=>by simp [D7,g6]
 | v::r,k,i=>by
  simp only[D7,g6];by_cases h:i=k
  ·subst h;simp
  ·rw[if_neg h,yO r (k+1) i]
   by_cases h2:k<=i
   ·rw[if_pos h2,if_pos (by omega)]
    have:i-k=(i-(k+1))+1:=by omega
    rw[this];simp
   ·rw[if_neg h2,if_neg (by omega)]
section
variable {B:Nat} {S:Nat->Prop} {w0:World} {m0:M} {N:Nat}
def iT (tmps:Array Value):ResultVar->Sem Value
 | .tmp t=>pure (tmps.getD t undef)
 | .cell x t=>do loadVar t (<-asAddr (tmps.getD x undef))
theorem Ads {m:M} {x v:AV} {u:Value} (h:O3 x=some v) (w5:CV B S m x u):CA B S m v u:=by
 cases w5 with
 | any=>simp [O3]at h
 | g8=>simp [O3]at h
 | ca hc =>
  have:x=v:=by
   cases hc with
   | one hc=>cases hc with
    | rd hr=>cases hr<;>simpa [O3] using h
    | _=>simpa [O3] using h
   | fn=>simpa [O3] using h
   | tp=>simpa [O3] using h
   | agg=>simpa [O3] using h
  subst this;exact hc
theorem qF {m:M} {a:Act} {st:St} (hf:IX B S w0 m0 N (g6 st.tm) m a) (l6:m.own=st.own) : ∀ {rv:List ResultVar} {ra:List PM} {vs:List AV},SJ P rv ra=true->ra.mapM (HY st)=some vs ->
  ∃ us:List Value,(rv.mapM (iT a.tmps)).run P m.w = .ok us m.w/\vs.length=us.length /\ ∀ (j:Nat) (c:AV) (v:Value),vs[j]? = some c->us[j]? = some v->CA B S m c v
 | [],[],vs,_,h=>by
  simp at h;subst h;exact ⟨[],by simp,rfl,λ j c v hc=>by simp at hc⟩
 | .tmp t::r,.tmp t'::l,vs,j9,h=>by
  simp only[SJ,Bool.and_eq_true,beq_iff_eq]at j9;obtain ⟨rfl,j9⟩:=j9;simp only[List.mapM_cons,Option.bind_eq_bind,Option.pure_def]at h;cases hv:HY st (.tmp t) with
  | none=>simp [hv]at h
  | some v =>
   cases hr:l.mapM (HY st) with
   | none=>simp [hv,hr]at h
   | some vr =>
    simp [hv,hr]at h;subst h;obtain ⟨us,h1,h2,h3⟩:=qF hf l6 j9 hr;have w5:=hf.tm t;have qy:CA B S m v (a.tmps.getD t undef):=Ads hv w5;refine ⟨a.tmps.getD t undef::us,?_,by simp [h2],λ j c u hc hu => ?_⟩
    ·simp only[List.mapM_cons,Sem.run_bind,iT,Sem.run_pure,Result.andThen_ok,h1]
    ·cases j with
     | zero =>
      obtain rfl:v=c:=by simpa using hc
      obtain rfl:a.tmps.getD t undef=u:=Option.some.inj hu;exact qy
     | succ j=>exact h3 j c u (by simpa using hc) (by simpa using hu)
 | .cell x t::r,.cell x' agg n::l,vs,j9,h=>by
  simp only[SJ,Bool.and_eq_true,beq_iff_eq]at j9;obtain ⟨⟨⟨rfl,jk⟩,hn⟩,j9⟩:=j9;simp only[List.mapM_cons,Option.bind_eq_bind,Option.pure_def]at h;cases hv:HY st (.cell x agg n) with
  | none=>simp [hv]at h
  | some v =>
   cases hr:l.mapM (HY st) with
   | none=>simp [hv,hr]at h
   | some vr =>
    simp [hv,hr]at h;subst h;obtain ⟨us,h1,h2,h3⟩:=qF hf l6 j9 hr;have w5:=hf.tm x;simp only[HY]at hv;split at hv
    ·rename_i s u i j hx
     rw[hx]at w5;split at hv
     ·rename_i cs ik
      rw[<-l6]at ik;obtain ⟨ad,cu,ht,hb⟩:=cK w5;obtain ⟨b,g,arr,e,o0,hg,cq,nj,n8,ic⟩:=Mg hf.mem ik;obtain ⟨ApL,ln⟩:=iN hv n8;have hld:=qI (P:=P) t agg n (kU (by simpa using jk)) (by
       cases agg
       ·simpa using hn
       ·exact VS (by simpa using hn)) ad cq nj m.w (λ q u' hq=>by
       have l8:q<cq.length:=(zS hq).1;obtain ⟨Bg,ko⟩:=hg (by omega);obtain ⟨g',eu,rfl⟩:=hb b o0;obtain rfl:g=g':=by rw[Bg]at eu;simpa using eu
       rw[NS,fZ ko];exact ic q u' hq)
      have Jv:(iT a.tmps (.cell x t)).run P m.w = .ok (if agg then .agg cq.toArray else cq.getD 0 undef) m.w:=by
       show (do loadVar t (<-asAddr (a.tmps.getD x undef)):Sem Value).run P m.w=_;rw[cu];simpa [asAddr,Instr.loadAt,Instr.sureAddr] using hld
      have qy:CA B S m v (if agg then .agg cq.toArray else cq.getD 0 undef):=by
       unfold QP at hv;cases agg with
       | true =>
        simp only[if_true,Option.some.injEq]at hv;subst hv;exact .agg cs cq n8
       | false =>
        simp only[Bool.false_eq_true,if_false]at hv ⊢;split at hv
        ·rename_i c
         simp only[Option.some.injEq]at hv;subst hv;obtain ⟨u',lq,ag⟩:=ZR n8 (j:=0) (c:=c) rfl;simp only[List.getD,lq,Option.getD_some];exact .one ag
        ·cases hv
      refine ⟨(if agg then .agg cq.toArray else cq.getD 0 undef)::us,?_,by simp [h2],λ j' c u' hc hu => ?_⟩
      ·rw[List.mapM_cons,Sem.run_bind,Jv,Result.andThen_ok,Sem.run_bind,h1,Result.andThen_ok]
       rfl
      ·cases j' with
       | zero =>
        obtain rfl:v=c:=by simpa using hc
        obtain rfl:=Option.some.inj hu;exact qy
       | succ j'=>exact h3 j' c u' (by simpa using hc) (by simpa using hu)
     ·cases hv
    ·cases hv
 | [],_::_,_,j9,_=>by simp [SJ]at j9
 | .tmp _::_,[],_,j9,_=>by simp [SJ]at j9
 | .cell _ _::_,[],_,j9,_=>by simp [SJ]at j9
 | .tmp _::_,.cell _ _ _::_,_,j9,_=>by simp [SJ]at j9
 | .cell _ _::_,.tmp _::_,_,j9,_=>by simp [SJ]at j9
end
theorem tO (hP:ProgOK P num L) {f:Nat} {fa:AFn} (hL:L f=some fa) (us:Array Value) (w:World):(callFunc (num f) us).run P w = .ok (.enter (num f) us) w:=by
 obtain ⟨fn,h1,h2,h3⟩:=hP.1 f fa hL;have hb:fn.body.isNone=false:=by
  simp only[okFn,Bool.and_eq_true]at h2;cases hbd:fn.body with
  | none=>rw[hbd]at h2;simp at h2
  | some c=>rfl
 unfold callFunc;simp only[Sem.run_bind,run_program,Result.andThen_ok,h1,h3,hb,Bool.false_eq_true,if_false,Sem.run_pure]
theorem yP (hP:ProgOK P num L) {n:Nat} (hC:LD P num (E2 L n)) {f:Nat} {vs:List AV} {own:BC} {r:AV} {n0:BC} (h:FV L (n+1) f vs own=some (r,n0)) (B:Nat) (S:Nat->Prop) (w0:World) (m:M) (us:List Value) (l6:m.own=own) (hm:CY B S w0 m) (hl:vs.length=us.length)
  (w5 : ∀ (j:Nat) (c:AV) (v:Value),vs[j]? = some c->us[j]? = some v->CV B S m c v) :
  Calls P (num f) us.toArray m.w λ e w' => ∃ u m',e = .returned u/\m'.w=w'/\m'.own=n0/\CY B S w0 m'/\FP B S m m'/\CV B S m' r u:=by
 rw[cR]at h;cases hL:L f with
 | none=>simp [hL]at h
 | some fa =>
  simp only[hL]at h;split at h
  ·rename_i Fl
   split at h
   ·rename_i st q7
    split at h
    ·rename_i Ug oy
     simp only[Option.some.injEq,Prod.mk.injEq]at h;obtain ⟨rfl,rfl⟩:=h;obtain ⟨fn,h1,h2,h3⟩:=hP.1 f fa hL;simp only[okFn,Bool.and_eq_true,beq_iff_eq,decide_eq_true_eq]at h2;obtain ⟨⟨⟨h4,h5⟩,h6⟩,h7⟩:=h2;split at h7
     ·rename_i c hc
      intro cs;have Be:Frame.enter P (num f) us.toArray .normal=({ (default:Frame) with fn:=num f,kind := .normal }:Frame).at { tmps:=us.toArray++Array.replicate (fn.ntmps-us.toArray.size) undef,defers:=[] } [.code c]:=by
       simp [Frame.enter,Frame.at,h1,hc]
      have w7:us.length=fa.cb:=by rw[<-hl];exact Fl
      have hf0:IX B S w0 m fn.ntmps (g6 (D7 0 vs)) m { tmps:=us.toArray++Array.replicate (fn.ntmps-us.toArray.size) undef,defers:=[] }:=by
       refine ⟨hm,FP.refl m,λ i => ?_,by simp;omega,rfl⟩;rw[yO];simp only[Nat.zero_le,if_true,Nat.sub_zero];cases Ta:vs[i]? with
       | none=>exact .any _
       | some v =>
        have hi:i<us.length:=by rw[<-hl];exact (zS Ta).1
        have o0:(us.toArray++Array.replicate (fn.ntmps-us.toArray.size) undef).getD i undef=us[i]:=by
         rw[Array.getD_eq_getD_getElem?,Array.getElem?_append_left (by simpa using hi)];simp [hi]
        simp only[o0];exact w5 i v us[i] Ta (zE hi)
      obtain ⟨a',m',n7,Bw,kr,mw⟩:=AiA (m0:=m) hC { (default:Frame) with fn:=num f,kind := .normal } cs n [.code fa.body] ⟨D7 0 vs,own⟩ st q7 [.code c] (.code h7 .nil) m _ l6 hf0;obtain ⟨wo,Df,sv,Sy⟩:=qF (P:=P) mw kr h6 oy;have yd:(results fn a'.tmps).run P m'.w = .ok (if h:wo.length=1 then wo[0] else .tuple wo.toArray) m'.w:=by
       have hr:results fn a'.tmps=(do let vs <-fn.results.mapM (iT a'.tmps);pure (if h:vs.size=1 then vs[0] else .tuple vs)):=rfl;rw[hr,Sem.run_bind,Array.mapM_eq_mapM_toList];simp [Df]
      refine ⟨.returned (if h:wo.length=1 then wo[0] else .tuple wo.toArray),m'.w,_,⟨_,m',rfl,rfl,kr,mw.mem,mw.ext,?_⟩,by rw[Be];exact Bw,rfl,rfl,mw.defers,rfl,fn,h1,yd⟩;unfold OG;split
      ·rename_i v
       have As:wo.length=1:=by rw[<-sv];rfl
       rw[dif_pos As];exact .ca (Sy 0 v wo[0] rfl (zE (by omega)))
      ·rename_i m7
       have As : ¬ wo.length=1:=λ e=>by
        rw[<-sv]at e;cases Ug with
        | nil=>simp at e
        | cons q qs=>cases qs with
         | nil=>exact m7 q rfl
         | cons=>simp at e
       rw[dif_neg As];exact .g8 Ug wo sv Sy
     ·cases h7
    ·cases h
   ·cases h
  ·cases h
theorem AhB (S:Nat->Prop) (w:World):CY w.heap.size S w ⟨λ_ _=>none,BC.emp,w⟩ :=
 ⟨Below.refl _ _,Nat.le_refl _,λ_ _ _=>rfl,λ s t b h=>by simp [BC.get,BC.emp]at h,λ s t s' t' b b' g h=>by simp [BC.get,BC.emp]at h⟩
theorem vV {n f:Nat} {vs:List AV} {own:BC} {r:AV × BC} (h:FV L n f vs own=some r) : ∃ fa,L f=some fa:=by
 cases n with
 | zero=>simp [FV]at h
 | succ n =>
  rw[cR]at h;cases hL:L f with
  | none=>simp [hL]at h
  | some fa=>exact ⟨fa,rfl⟩
theorem pT {n f:Nat} {vs:List AV} {r:AV} (h:OX (λ vs=>FV L n f vs BC.emp) vs=some r) : ∃ r0 o,FV L n f vs BC.emp=some (r0,o)/\XV o false r0=some r/\B4 r:=by
 unfold OX at h;cases he:FV L n f vs BC.emp with
 | none=>simp [he]at h
 | some x =>
  obtain ⟨r0,o⟩:=x;simp only[he]at h;split at h
  ·rename_i r' hr
   split at h
   ·rename_i hc
    simp only[Option.some.injEq]at h;subst h;exact ⟨r0,o,rfl,hr,hc⟩
   ·cases h
  ·cases h
theorem mS {n f:Nat} {vs:List AV} {r:AV} (h:LM L n f vs=some r) : ∃ cq,∃ x,FV L n f cq BC.emp=some x:=by
 unfold LM QQ at h;split at h
 ·split at h
  ·rename_i r1 r2 h1 h2
   obtain ⟨r0,o,h3,_⟩:=pT h1;exact ⟨_,_,h3⟩
  ·cases h
 ·obtain ⟨r0,o,h3,_⟩:=pT h
  exact ⟨_,_,h3⟩
theorem pU (hP:ProgOK P num L) {n:Nat} (ih:LD P num (E2 L n)) {f:Nat} {vs:List AV} {r:AV} (h:OX (λ vs=>FV L (n+1) f vs BC.emp) vs=some r) (S:Nat->Prop) (w:World) (us:List Value) (hl:vs.length=us.length)
  (qy : ∀ (j:Nat) (c:AV) (v:Value),vs[j]? = some c->us[j]? = some v->CA w.heap.size S ⟨λ_ _=>none,BC.emp,w⟩ c v) :
  Calls P (num f) us.toArray w λ e w' => ∃ u,e = .returned u/\Below w.heap.size w w'/\CV w.heap.size S ⟨λ_ _=>none,BC.emp,w'⟩ r u/\B4 r:=by
 obtain ⟨r0,o,h1,h2,h3⟩:=pT (L:=L) h;refine Calls.mono (yP hP ih h1 w.heap.size S w ⟨λ_ _=>none,BC.emp,w⟩ us rfl (AhB S w) hl λ j c v hc hv => .ca (qy j c v hc hv)) λ e w' ⟨u,m',he,hw,l6,mf,_,w5⟩ => ?_
 subst hw;refine ⟨u,he,mf.below,?_,h3⟩;refine DV.cv (m:=⟨λ_ _=>none,BC.emp,m'.w⟩) (AiV mf false (safe w.heap.size S ⟨λ_ _=>none,BC.emp,m'.w⟩) (λ l b hb hs => ?_) (λ s t g iq hg => ?_) (by rw[l6];exact h2) w5)
 ·rcases hs with h|⟨h,_⟩|h
  ·exact .inl h
  ·exact .inr (.inl ⟨h,λ s t iq=>by simp [BC.get,BC.emp]at iq⟩)
  ·exact .inr (.inr h)
 ·exact .inr (.inl ⟨(mf.ge iq hg).1,λ s t iq=>by simp [BC.get,BC.emp]at iq⟩)
theorem Adt (hP:ProgOK P num L) : ∀ n,LD P num (E2 L n):=by
 intro n;induction n with
 | zero =>
  exact ⟨λ f vs r h=>by obtain ⟨cq,x,h1⟩:=mS (L:=L) (n:=0) (f:=f) (vs:=vs) (r:=r) h;simp [FV]at h1,λ f vs own r h=>by change FV L 0 f vs own=some r at h;simp [FV]at h,
   λ f vs r h=>by obtain ⟨cq,x,h1⟩:=mS (L:=L) (n:=0) (f:=f) (vs:=vs) (r:=r) h;simp [FV]at h1,λ f vs own r n0 h=>by change FV L 0 f vs own=_ at h;simp [FV]at h,hP.2⟩
 | succ n ih =>
  refine ⟨λ f vs r h us w => ?_,λ f vs own r h us w => ?_,λ f vs r h S w us hl qy => ?_,λ f vs own r n0 h B S w0 m us l6 hm hl w5=>yP hP ih h B S w0 m us l6 hm hl w5,hP.2⟩
  ·obtain ⟨cq,x,h1⟩:=mS (L:=L) h
   obtain ⟨fa,hL⟩:=vV h1;exact tO hP hL us w
  ·obtain ⟨fa,hL⟩:=vV (L:=L) h
   exact tO hP hL us w
  ·have h:QQ (L.pj f) (λ vs=>FV L (n+1) f vs BC.emp) vs=some r:=h
   unfold QQ at h;split at h
   ·rename_i q cq _ _
    split at h
    ·rename_i r1 r2 h1 h2
     split at h
     ·rename_i e
      subst e;obtain rfl:=Option.some.inj h;cases us with
      | nil=>simp at hl
      | cons u us =>
       have h0:=qy 0 _ u rfl rfl;have hu : ∃ a cap,u = .slice a 0 cap:=by
        cases h0 with
        | one h0=>cases h0 with
         | rd h0=>cases h0 with
          | jx l a cap=>exact ⟨a,cap,rfl⟩
          | sl l es b o b9 cap u m7=>exact absurd rfl m7
       obtain ⟨a,cap,rfl⟩:=hu;have key : ∀ b,a.isNone=b -> ∀ (j:Nat) (c:AV) (v:Value),(AV.da (.bool b)::cq)[j]? = some c->(Value.slice a 0 cap::us)[j]? = some v->CA w.heap.size S ⟨λ_ _=>none,BC.emp,w⟩ c v:=λ b hb j c v hc hv=>by
        cases j with
        | zero =>
         obtain rfl:=Option.some.inj hc;obtain rfl:=Option.some.inj hv;exact .one (.rd (.emp b a cap hb))
        | succ j=>exact qy (j+1) c v hc hv
       cases hb:a.isNone with
       | true=>exact pU hP ih h1 S w _ (by simpa using hl) (key true hb)
       | false=>exact pU hP ih h2 S w _ (by simpa using hl) (key false hb)
     ·cases h
    ·cases h
   ·exact pU hP ih h S w us hl qy
end
end Go.e6
namespace Go.e6
abbrev OkF (P : Program) (num : Nat → Nat) (p : Nat × AFn) : Prop := ∃ fn, P.funcs[num p.1]? = some fn ∧ okFn P num fn p.2 = true ∧ (fn.name == "runtime.NumGoroutine") = false
theorem Ah1 {P:Program} {num:Nat->Nat} (l:List (Nat × AFn)) (h : ∀ p∈l,OkF P num p):ProgOK P num ⟨λ f=>l.lookup f,num⟩:=by
 refine ⟨?_,rfl⟩;intro f fa hf;have hm:(f,fa)∈l:=by
  clear h;change l.lookup f=some fa at hf;induction l with
  | nil=>simp at hf
  | cons x r ih =>
   obtain ⟨k,v⟩:=x;rw[List.lookup_cons]at hf;cases hk:(f == k) with
   | true =>
    rw[hk]at hf;have:f=k:=by simpa using hk
    subst this;simp at hf;simp [hf]
   | false =>
    rw[hk]at hf;exact List.mem_cons_of_mem _ (ih hf)
 exact h (f,fa) hm
end Go.e6
namespace Go.e6
section
variable {L:Lib}
def Cl.le (C C':Cl):Prop:=(∀ f vs r,C.pure f vs=some r->C'.pure f vs=some r)/\(∀ f vs o r,C.iv f vs o=some r->C'.iv f vs o=some r)/\C.num=C'.num
theorem sZ {x y:Option (AV × BC)} {r:Nat × List (List AV)} (h : ∀ q,x=some q->y=some q) (hr:U6 x=some r):U6 y=some r:=by
 cases x with
 | none=>simp [U6]at hr
 | some q=>rw[h q rfl];exact hr
theorem AeZ {C C':Cl} (h:C.le C') {c5:List Nat} {ρ:BH->AV} {own:BC} {op:F5} {E:DS} (he:e8 C c5 ρ own op=some E):e8 C' c5 ρ own op=some E:=by
 cases op with
 | call f xs =>
  simp only[e8]at he ⊢;split at he
  ·rename_i vs ic
   simp only[Option.map_eq_some_iff]at he ⊢;obtain ⟨r,hr,rfl⟩:=he;exact ⟨r,h.1 f vs r hr,rfl⟩
  ·cases he
 | g7 f xs =>
  simp only[e8,Option.map_eq_some_iff]at he ⊢;obtain ⟨r,hr,rfl⟩:=he;exact ⟨r,h.2.1 f _ own r hr,rfl⟩
 | pe p f xs=>simp only[e8]at he ⊢;rw[<-h.2.2];exact he
 | cw s f xs =>
  simp only[e8,Option.map_eq_some_iff]at he ⊢;obtain ⟨p,hp,rfl⟩:=he;exact ⟨p,fY.2 λ o ho=>h.2.1 f _ o _ (fY.1 hp o ho),rfl⟩
 | o8 s f xs =>
  simp only[e8]at he ⊢;split at he
  ·rename_i vs ic
   simp only[Option.map_eq_some_iff]at he ⊢;obtain ⟨r,hr,rfl⟩:=he;exact ⟨r,sZ (h.2.1 f vs BC.emp) hr,rfl⟩
  ·cases he
 | m6 f xs =>
  simp only[e8]at he ⊢;split at he
  ·rename_i hq
   rw[if_pos hq];split at he
   ·rename_i r hr
    rw[h.1 _ _ r hr];exact he
   ·cases he
  ·cases he
 | o3 x xs =>
  simp only[e8]at he ⊢;rw[<-h.2.2];split at he
  ·split at he
   ·rename_i hg
    rw[if_pos hg];split at he
    ·split at he
     ·rename_i vs ic
      simp only[Option.map_eq_some_iff]at he ⊢;obtain ⟨r,hr,rfl⟩:=he;exact ⟨r,h.1 _ vs r hr,rfl⟩
     ·cases he
    ·simp only[Option.map_eq_some_iff]at he ⊢
     obtain ⟨r,hr,rfl⟩:=he;exact ⟨r,h.2.1 _ _ own r hr,rfl⟩
    ·split at he
     ·rename_i vs ic
      simp only[Option.map_eq_some_iff]at he ⊢;obtain ⟨r,hr,rfl⟩:=he;exact ⟨r,h.1 _ vs r hr,rfl⟩
     ·cases he
   ·cases he
  ·cases he
 | _=>exact he
theorem Ai1 {C C':Cl} (h:C.le C') {o:AI} {st k9:St} (he:EL C o st=some k9):EL C' o st=some k9:=by
 unfold EL at he ⊢;split at he
 ·simp only[Option.map_eq_some_iff]at he ⊢
  obtain ⟨E,h1,h2⟩:=he;exact ⟨E,AeZ h h1,h2⟩
 ·exact he
 ·exact he
theorem VU {C C':Cl} (h:C.le C') : ∀ {l:List AI} {st k9:St},FB C l st=some k9->FB C' l st=some k9
 | [],st,k9,he=>he
 | o::r,st,k9,he=>by
  simp only[FB]at he ⊢;cases hs:EL C o st with
  | none=>simp [hs]at he
  | some B8 =>
   rw[Ai1 h hs];simp only[hs]at he;exact VU h he
theorem VR {C C':Cl} (h:C.le C') : ∀ {n n':Nat} {k:List It} {st k9:St},n<=n'->run C n k st=some k9->run C' n' k st=some k9:=by
 intro n;induction n with
 | zero=>intro n' k st k9 _ hr;simp [run]at hr
 | succ n ih =>
  intro n' k st k9 hn hr;obtain ⟨q,rfl⟩ : ∃ q,n'=q+1:=⟨n'-1,by omega⟩;have hq:n<=q:=by omega
  cases k with
  | nil=>exact hr
  | cons it k =>
   cases it with
   | e7 id=>simp only[run]at hr ⊢;exact ih hq hr
   | ns ts ss=>simp only[run]at hr ⊢;exact ih hq hr
   | lp c=>simp only[run]at hr ⊢;exact ih hq hr
   | code c =>
    cases c with
    | skip=>simp only[run]at hr ⊢;exact ih hq hr
    | ops l d =>
     simp only[run]at hr ⊢;cases hs:FB C l st with
     | none=>simp [hs]at hr
     | some B8 =>
      rw[VU h hs];simp only[hs]at hr;exact ih hq hr
    | dr c ts ss=>simp only[run]at hr ⊢;exact ih hq hr
    | scope c=>simp only[run]at hr ⊢;exact ih hq hr
    | seq a b=>simp only[run]at hr ⊢;exact ih hq hr
    | cond x a b =>
     simp only[run]at hr ⊢;split at hr
     ·exact ih hq hr
     ·exact ih hq hr
     ·cases hr
    | block id c=>simp only[run]at hr ⊢;exact ih hq hr
    | loop c=>simp only[run]at hr ⊢;exact ih hq hr
    | exit id =>
     simp only[run]at hr ⊢;split at hr
     ·exact ih hq hr
     ·cases hr
    | ret=>exact hr
theorem dU {I I':List AV->Option (AV × BC)} (hI : ∀ vs r,I vs=some r->I' vs=some r) {vs:List AV} {r:AV} (h:OX I vs=some r):OX I' vs=some r:=by
 unfold OX at h ⊢;cases he:I vs with
 | none=>simp [he]at h
 | some x=>rw[hI vs _ he];simpa [he] using h
theorem Ah2 {b:Bool} {I I':List AV->Option (AV × BC)} (hI : ∀ vs r,I vs=some r->I' vs=some r) {vs:List AV} {r:AV} (h:QQ b I vs=some r):QQ b I' vs=some r:=by
 unfold QQ at h ⊢;split at h
 ·split at h
  ·rename_i r1 r2 h1 h2
   rw[dU hI h1,dU hI h2];exact h
  ·cases h
 ·exact dU hI h
theorem wG : ∀ (n:Nat),(E2 L n).le (E2 L (n+1)):=by
 have iv : ∀ n,(∀ f vs o r,FV L n f vs o=some r->FV L (n+1) f vs o=some r) -> ∀ f vs r,LM L n f vs=some r->LM L (n+1) f vs=some r:=by
  intro n hI f vs r h;exact Ah2 (λ vs r h=>hI f vs _ r h) h
 intro n;induction n with
 | zero =>
  have : ∀ f vs o r,FV L 0 f vs o=some r->FV L 1 f vs o=some r:=λ f vs o r h=>by simp [FV]at h
  exact ⟨iv 0 this,this,rfl⟩
 | succ n ih =>
  have : ∀ f vs o r,FV L (n+1) f vs o=some r->FV L (n+2) f vs o=some r:=λ f vs o r h=>by
   rw[cR]at h ⊢;cases hL:L f with
   | none=>simp [hL]at h
   | some fn =>
    simp only[hL]at h ⊢;split at h
    ·rename_i hp
     rw[if_pos hp];cases hr:run (E2 L n) n [.code fn.body] ⟨D7 0 vs,o⟩ with
     | none=>simp [hr]at h
     | some st =>
      rw[VR ih (Nat.le_succ n) hr];simpa [hr] using h
    ·cases h
  exact ⟨iv (n+1) this,this,rfl⟩
theorem I0 {n n':Nat} (h:n<=n'):(E2 L n).le (E2 L n'):=by
 induction h with
 | refl=>exact ⟨λ_ _ _ h=>h,λ_ _ _ _ h=>h,rfl⟩
 | step _ ih=>exact ⟨λ f vs r h=>(wG _).1 f vs r (ih.1 f vs r h),λ f vs o r h=>(wG _).2.1 f vs o r (ih.2.1 f vs o r h),rfl⟩
def Ev (L:Lib) (f:Nat) (vs:List AV) (r:AV):Prop := ∃ n,LM L n f vs=some r
def JM (L:Lib) (f:Nat) (vs:List AV) (r:AV):Prop := ∃ n,OX (λ vs=>FV L n f vs BC.emp) vs=some r
def J2 (L:Lib) (f:Nat) (vs:List AV) (o:BC) (r:AV) (o':BC):Prop := ∃ n,FV L n f vs o=some (r,o')
def PO (L:Lib) (f:Nat) (vs:List AV) (z:Nat) (es:List (List AV)):Prop := ∃ n,U6 (FV L n f vs BC.emp)=some (z,es)
theorem Ev.Ap {f:Nat} {vs:List AV} {r r':AV} (h:Ev L f vs r) (h':Ev L f vs r'):r=r':=by
 obtain ⟨n,hn⟩:=h;obtain ⟨n',qj⟩:=h';have h1:=(I0 (L:=L) (Nat.le_max_left n n')).1 f vs r hn;have h2:=(I0 (L:=L) (Nat.le_max_right n n')).1 f vs r' qj;rw[h1]at h2;exact Option.some.inj h2
theorem J2.Ap {f:Nat} {vs:List AV} {o:BC} {r r':AV} {o1 o2:BC} (h:J2 L f vs o r o1) (h':J2 L f vs o r' o2):r=r'/\o1=o2:=by
 obtain ⟨n,hn⟩:=h;obtain ⟨n',qj⟩:=h';have h1:=(I0 (L:=L) (Nat.le_max_left n n')).2.1 f vs o _ hn;have h2:=(I0 (L:=L) (Nat.le_max_right n n')).2.1 f vs o _ qj;rw[h1]at h2;simpa using h2
def AK (L:Lib) (k:List It) (st:St) (Q:St->Prop):Prop := ∃ n c k9,run (E2 L c) n k st=some k9/\Q k9
def AO (L:Lib) (l:List AI) (k:List It) (st:St) (Q:St->Prop):Prop := ∃ n c B8 k9,FB (E2 L c) l st=some B8/\run (E2 L c) n k B8=some k9/\Q k9
variable {k:List It} {st:St} {Q:St->Prop}
theorem QC {it:It} {k':List It} {B8:St} (h : ∀ (C:Cl) (n:Nat),run C (n+1) (it::k) st=run C n k' B8):AK L (it::k) st Q↔AK L k' B8 Q:=by
 constructor
 ·rintro ⟨n,c,k9,hr,hq⟩
  cases n with
  | zero=>simp [run]at hr
  | succ n=>exact ⟨n,c,k9,by rw[<-h];exact hr,hq⟩
 ·rintro ⟨n,c,k9,hr,hq⟩
  exact ⟨n+1,c,k9,by rw[h];exact hr,hq⟩
theorem Vh:AK L [] st Q↔Q st:=by
 constructor
 ·rintro ⟨n,c,k9,hr,hq⟩
  cases n with
  | zero=>simp [run]at hr
  | succ n=>simp only[run,Option.some.injEq]at hr;exact hr ▸ hq
 ·exact λ h=>⟨1,0,st,rfl,h⟩
theorem Uy {id:Nat}:AK L (.e7 id::k) st Q↔AK L k st Q:=QC λ_ _=>rfl
theorem Vd {ts ss:List Nat}:AK L (.ns ts ss::k) st Q↔AK L k ⟨bf st.tm ts,st.own.drop ss⟩ Q:=QC λ_ _=>rfl
theorem rT {c:CP}:AK L (.lp c::k) st Q↔AK L (.code c :: .lp c::k) st Q:=QC λ_ _=>rfl
theorem Un:AK L (.code .skip::k) st Q↔AK L k st Q:=QC λ_ _=>rfl
theorem Vc {c:CP} {ts ss:List Nat}:AK L (.code (.dr c ts ss)::k) st Q↔AK L (.code c :: .ns ts ss::k) st Q:=QC λ_ _=>rfl
theorem Ul {c:CP}:AK L (.code (.scope c)::k) st Q↔AK L (.code c::k) st Q:=QC λ_ _=>rfl
theorem Um {a b:CP}:AK L (.code (.seq a b)::k) st Q↔AK L (.code a :: .code b::k) st Q:=QC λ_ _=>rfl
theorem Uz {id:Nat} {c:CP}:AK L (.code (.block id c)::k) st Q↔AK L (.code c :: .e7 id::k) st Q:=QC λ_ _=>rfl
theorem Vf {c:CP}:AK L (.code (.loop c)::k) st Q↔AK L (.code c :: .lp c::k) st Q:=QC λ_ _=>rfl
theorem Ve {id:Nat} {k':List It} (h:IQ id k=some k'):AK L (.code (.exit id)::k) st Q↔AK L k' st Q:=QC λ C n=>by simp [run,h]
theorem Uk:AK L (.code .ret::k) st Q↔Q st:=by
 constructor
 ·rintro ⟨n,c,k9,hr,hq⟩
  cases n with
  | zero=>simp [run]at hr
  | succ n=>simp only[run,Option.some.injEq]at hr;exact hr ▸ hq
 ·exact λ h=>⟨1,0,st,rfl,h⟩
theorem Vb {x:BH} {a b:CP} {t:Bool} (h:st.ev x = .bool t):AK L (.code (.cond x a b)::k) st Q↔if t=true then AK L (.code a::k) st Q else AK L (.code b::k) st Q:=by
 cases t
 ·simpa using QC (k' := .code b::k) (B8:=st) λ C n=>by simp [run,h]
 ·simpa using QC (k' := .code a::k) (B8:=st) λ C n=>by simp [run,h]
theorem Vj {l:List AI} {d:Bool}:AK L (.code (.ops l d)::k) st Q↔AO L l k st Q:=by
 constructor
 ·rintro ⟨n,c,k9,hr,hq⟩
  cases n with
  | zero=>simp [run]at hr
  | succ n =>
   simp only[run]at hr;split at hr
   ·rename_i B8 hs
    exact ⟨n,c,B8,k9,hs,hr,hq⟩
   ·cases hr
 ·rintro ⟨n,c,B8,k9,hs,hr,hq⟩
  exact ⟨n+1,c,k9,by simp [run,hs,hr],hq⟩
theorem Yd:AO L [] k st Q↔AK L k st Q:=by
 constructor
 ·rintro ⟨n,c,B8,k9,hs,hr,hq⟩
  simp only[FB,Option.some.injEq]at hs;exact ⟨n,c,k9,hs ▸ hr,hq⟩
 ·rintro ⟨n,c,k9,hr,hq⟩
  exact ⟨n,c,st,k9,rfl,hr,hq⟩
theorem Yh {o:AI} {l:List AI} {B8:St} (h : ∀ C,EL C o st=some B8):AO L (o::l) k st Q↔AO L l k B8 Q:=by
 constructor
 ·rintro ⟨n,c,C0,k9,hs,hr,hq⟩
  simp only[FB,h]at hs;exact ⟨n,c,C0,k9,hs,hr,hq⟩
 ·rintro ⟨n,c,C0,k9,hs,hr,hq⟩
  exact ⟨n,c,C0,k9,by simpa only[FB,h] using hs,hr,hq⟩
theorem Yf {d:Option Nat} {op:F5} {g:Option (Nat × Bool)} {c5:List Nat} {l:List AI} (h:IR st g=some false):AO L (⟨d,op,g,c5⟩::l) k st Q↔AO L l k (st.dst d (.g8 [])) Q :=
 Yh λ C=>by simp [EL,h]
theorem ZQ (c:Nat):(E2 L c).num=L.num:=rfl
theorem Yg {d:Option Nat} {op:F5} {g:Option (Nat × Bool)} {c5:List Nat} {l:List AI} {E:DS} (h:IR st g=some true) (he : ∀ c,e8 (E2 L c) c5 st.ev st.own op=some E):AO L (⟨d,op,g,c5⟩::l) k st Q↔AO L l k (st.app d E) Q:=by
 have h : ∀ c,EL (E2 L c) ⟨d,op,g,c5⟩ st=some (st.app d E):=λ c=>by simp [EL,h,he]
 constructor
 ·rintro ⟨n,c,C0,k9,hs,hr,hq⟩
  simp only[FB,h]at hs;exact ⟨n,c,C0,k9,hs,hr,hq⟩
 ·rintro ⟨n,c,C0,k9,hs,hr,hq⟩
  exact ⟨n,c,C0,k9,by simpa only[FB,h] using hs,hr,hq⟩
theorem Uo {d:Option Nat} {f:Nat} {xs:List BH} {g:Option (Nat × Bool)} {c5:List Nat} {l:List AI} {vs:List AV} {r:AV} (h:IR st g=some true) (hv:(xs.map st.ev).mapM (EJ (st.own.n6 c5) true)=some vs) (hr:Ev L f vs r) :
  AO L (⟨d,.call f xs,g,c5⟩::l) k st Q↔AO L l k (st.dst d r) Q:=by
 have m9 : ∀ c r',LM L c f vs=some r'->EL (E2 L c) ⟨d,.call f xs,g,c5⟩ st=some (st.dst d r'):=λ c r' hc=>by
  have y6:(E2 L c).pure f vs=some r':=hc;simp [EL,h,e8,hv,y6,St.app]
 constructor
 ·rintro ⟨n,c,C0,k9,hs,gl,hq⟩
  simp only[FB]at hs;cases hI:EL (E2 L c) ⟨d,.call f xs,g,c5⟩ st with
  | none=>simp [hI]at hs
  | some B8 =>
   simp only[hI]at hs;cases hp:LM L c f vs with
   | none =>
    have y6:(E2 L c).pure f vs=none:=hp;simp [EL,h,e8,hv,y6]at hI
   | some r' =>
    obtain rfl:r'=r:=Ev.Ap ⟨c,hp⟩ hr;rw[m9 c r' hp]at hI;obtain rfl:=Option.some.inj hI;exact ⟨n,c,C0,k9,hs,gl,hq⟩
 ·rintro ⟨n,c,C0,k9,hs,gl,hq⟩
  obtain ⟨c',y6⟩:=hr;have l1:=I0 (L:=L) (Nat.le_max_left c c');have l2:=I0 (L:=L) (Nat.le_max_right c c');refine ⟨n,max c c',C0,k9,?_,VR l1 (Nat.le_refl n) gl,hq⟩;simp only[FB];rw[m9 (max c c') r (l2.1 f vs r y6)];exact VU l1 hs
theorem Ur {d:Option Nat} {f:Nat} {x:BH} {xs:List BH} {g:Option (Nat × Bool)} {c5:List Nat} {l:List AI} {vs:List AV} {r:AV} (h:IR st g=some true) (hx:st.ev x = .fn true f (L.num f) []) (hv:(xs.map st.ev).mapM (EJ st.own true)=some vs) (hr:Ev L f vs r) :
  AO L (⟨d,.o3 x xs,g,c5⟩::l) k st Q↔AO L l k (st.dst d r) Q:=by
 have m9 : ∀ c r',LM L c f vs=some r'->EL (E2 L c) ⟨d,.o3 x xs,g,c5⟩ st=some (st.dst d r'):=λ c r' hc=>by
  have y6:(E2 L c).pure f vs=some r':=hc;simp [EL,h,e8,hx,ZQ,hv,y6,St.app]
 constructor
 ·rintro ⟨n,c,C0,k9,hs,gl,hq⟩
  simp only[FB]at hs;cases hI:EL (E2 L c) ⟨d,.o3 x xs,g,c5⟩ st with
  | none=>simp [hI]at hs
  | some B8 =>
   simp only[hI]at hs;cases hp:LM L c f vs with
   | none =>
    have y6:(E2 L c).pure f vs=none:=hp;simp [EL,h,e8,hx,ZQ,hv,y6]at hI
   | some r' =>
    obtain rfl:r'=r:=Ev.Ap ⟨c,hp⟩ hr;rw[m9 c r' hp]at hI;obtain rfl:=Option.some.inj hI;exact ⟨n,c,C0,k9,hs,gl,hq⟩
 ·rintro ⟨n,c,C0,k9,hs,gl,hq⟩
  obtain ⟨c',y6⟩:=hr;have l1:=I0 (L:=L) (Nat.le_max_left c c');have l2:=I0 (L:=L) (Nat.le_max_right c c');refine ⟨n,max c c',C0,k9,?_,VR l1 (Nat.le_refl n) gl,hq⟩;simp only[FB];rw[m9 (max c c') r (l2.1 f vs r y6)];exact VU l1 hs
theorem Up {d:Option Nat} {f:Nat} {w:AV} {cs:List AV} {x:BH} {xs:List BH} {g:Option (Nat × Bool)} {c5:List Nat} {l:List AI} {vs:List AV} {r:AV} (h:IR st g=some true) (hx:st.ev x = .fn true f (L.num f) (w::cs)) (hv:(AV.agg (w::cs)::xs.map st.ev).mapM (EJ st.own true)=some vs) (hr:Ev L f vs r) :
  AO L (⟨d,.o3 x xs,g,c5⟩::l) k st Q↔AO L l k (st.dst d r) Q:=by
 have m9 : ∀ c r',LM L c f vs=some r'->EL (E2 L c) ⟨d,.o3 x xs,g,c5⟩ st=some (st.dst d r'):=λ c r' hc=>by
  have y6:(E2 L c).pure f vs=some r':=hc;simp [EL,h,e8,hx,ZQ,hv,y6,St.app]
 constructor
 ·rintro ⟨n,c,C0,k9,hs,gl,hq⟩
  simp only[FB]at hs;cases hI:EL (E2 L c) ⟨d,.o3 x xs,g,c5⟩ st with
  | none=>simp [hI]at hs
  | some B8 =>
   simp only[hI]at hs;cases hp:LM L c f vs with
   | none =>
    have y6:(E2 L c).pure f vs=none:=hp;simp [EL,h,e8,hx,ZQ,hv,y6]at hI
   | some r' =>
    obtain rfl:r'=r:=Ev.Ap ⟨c,hp⟩ hr;rw[m9 c r' hp]at hI;obtain rfl:=Option.some.inj hI;exact ⟨n,c,C0,k9,hs,gl,hq⟩
 ·rintro ⟨n,c,C0,k9,hs,gl,hq⟩
  obtain ⟨c',y6⟩:=hr;have l1:=I0 (L:=L) (Nat.le_max_left c c');have l2:=I0 (L:=L) (Nat.le_max_right c c');refine ⟨n,max c c',C0,k9,?_,VR l1 (Nat.le_refl n) gl,hq⟩;simp only[FB];rw[m9 (max c c') r (l2.1 f vs r y6)];exact VU l1 hs
theorem Us {d:Option Nat} {f:Nat} {xs:List BH} {g:Option (Nat × Bool)} {c5:List Nat} {l:List AI} {r:AV} (h:IR st g=some true) (hq:(xs.map st.ev).all dq=true) (hr:Ev L f ((xs.map st.ev).map wk) r) (im:QG r\/ZI r) :
  AO L (⟨d,.m6 f xs,g,c5⟩::l) k st Q↔AO L l k (st.dst d (RO r)) Q:=by
 have m9 : ∀ c,LM L c f ((xs.map st.ev).map wk)=some r->EL (E2 L c) ⟨d,.m6 f xs,g,c5⟩ st=some (st.dst d (RO r)):=λ c hc=>by
  have y6:(E2 L c).pure f ((xs.map st.ev).map wk)=some r:=hc;simp only[EL,h,e8];rw[if_pos hq,y6];simp only[if_pos im,Option.map_some,St.app]
 constructor
 ·rintro ⟨n,c,C0,k9,hs,gl,Cy⟩
  simp only[FB]at hs;cases hp:LM L c f ((xs.map st.ev).map wk) with
  | none =>
   have y6:(E2 L c).pure f ((xs.map st.ev).map wk)=none:=hp;simp only[EL,h,e8]at hs;rw[if_pos hq,y6]at hs;simp at hs
  | some r' =>
   obtain rfl:r'=r:=Ev.Ap ⟨c,hp⟩ hr;rw[m9 c hp]at hs;exact ⟨n,c,C0,k9,hs,gl,Cy⟩
 ·rintro ⟨n,c,C0,k9,hs,gl,Cy⟩
  obtain ⟨c',y6⟩:=hr;have l1:=I0 (L:=L) (Nat.le_max_left c c');have l2:=I0 (L:=L) (Nat.le_max_right c c');refine ⟨n,max c c',C0,k9,?_,VR l1 (Nat.le_refl n) gl,Cy⟩;simp only[FB];rw[m9 (max c c') (l2.1 f _ r y6)];exact VU l1 hs
theorem Ut {d:Option Nat} {s f:Nat} {xs:List BH} {g:Option (Nat × Bool)} {c5:List Nat} {l:List AI} {vs:List AV} {z:Nat} {es:List (List AV)} (h:IR st g=some true) (hv:(xs.map st.ev).mapM (VT (st.own.n6 c5) true)=some vs) (hr:PO L f vs z es)
  (ha:AO L l k (st.app d (.new s ⟨z,es⟩ (λ t => .row s t z 0 es.length))) Q):AO L (⟨d,.o8 s f xs,g,c5⟩::l) k st Q:=by
 obtain ⟨n,c,C0,k9,hs,gl,hq⟩:=ha;obtain ⟨c',y6⟩:=hr;have l1:=I0 (L:=L) (Nat.le_max_left c c');have l2:=I0 (L:=L) (Nat.le_max_right c c');have vu:U6 ((E2 L (max c c')).iv f vs BC.emp)=some (z,es):=sZ (l2.2.1 f vs BC.emp) y6;refine ⟨n,max c c',C0,k9,?_,VR l1 (Nat.le_refl n) gl,hq⟩;simp only[FB];have:EL (E2 L (max c c')) ⟨d,.o8 s f xs,g,c5⟩ st=some (st.app d (.new s ⟨z,es⟩ (λ t => .row s t z 0 es.length))):=by
  simp only[EL,h,e8,hv,vu,Option.map_some]
 rw[this];exact VU l1 hs
def sE (L:Lib) (s f:Nat) (vs:List AV) (q:DM) (r:AV) (q':DM):Prop := ∃ n,∀ o:BC,o s=q->FV L n f vs o=some (r,o.put s q')
theorem Xx {d:Option Nat} {s f:Nat} {xs:List BH} {g:Option (Nat × Bool)} {c5:List Nat} {l:List AI} {r:AV} {q':DM} (h:IR st g=some true) (hr:sE L s f (xs.map st.ev) (st.own s) r q')
  (ha:AO L l k (st.app d (.wm s q' r)) Q):AO L (⟨d,.cw s f xs,g,c5⟩::l) k st Q:=by
 obtain ⟨n,c,C0,k9,hs,gl,hq⟩:=ha;obtain ⟨c',y6⟩:=hr;have l1:=I0 (L:=L) (Nat.le_max_left c c');have l2:=I0 (L:=L) (Nat.le_max_right c c');have vu:fX (E2 L (max c c')) f (xs.map st.ev) s (st.own s)=some (r,q'):=fY.2 λ o ho=>l2.2.1 f _ o _ (y6 o ho)
 refine ⟨n,max c c',C0,k9,?_,VR l1 (Nat.le_refl n) gl,hq⟩;simp only[FB];have:EL (E2 L (max c c')) ⟨d,.cw s f xs,g,c5⟩ st=some (st.app d (.wm s q' r)):=by
  simp only[EL,h,e8,vu,Option.map_some]
 rw[this];exact VU l1 hs
theorem Uq {d:Option Nat} {f:Nat} {xs:List BH} {g:Option (Nat × Bool)} {c5:List Nat} {l:List AI} {r:AV} {o':BC} (h:IR st g=some true) (hr:J2 L f (xs.map st.ev) st.own r o') :
  AO L (⟨d,.g7 f xs,g,c5⟩::l) k st Q↔AO L l k { (st.dst d r) with own:=o' } Q:=by
 have m9 : ∀ c r' o1,FV L c f (xs.map st.ev) st.own=some (r',o1)->EL (E2 L c) ⟨d,.g7 f xs,g,c5⟩ st=some { (st.dst d r') with own:=o1 }:=λ c r' o1 hc=>by
  have y6:(E2 L c).iv f (xs.map st.ev) st.own=some (r',o1):=hc;simp [EL,h,e8,y6,St.app]
 constructor
 ·rintro ⟨n,c,C0,k9,hs,gl,hq⟩
  simp only[FB]at hs;cases hI:EL (E2 L c) ⟨d,.g7 f xs,g,c5⟩ st with
  | none=>simp [hI]at hs
  | some B8 =>
   simp only[hI]at hs;cases hp:FV L c f (xs.map st.ev) st.own with
   | none =>
    have y6:(E2 L c).iv f (xs.map st.ev) st.own=none:=hp;simp [EL,h,e8,y6]at hI
   | some x =>
    obtain ⟨r',o1⟩:=x;obtain ⟨rfl,rfl⟩:=J2.Ap ⟨c,hp⟩ hr;rw[m9 c r' o1 hp]at hI;obtain rfl:=Option.some.inj hI;exact ⟨n,c,C0,k9,hs,gl,hq⟩
 ·rintro ⟨n,c,C0,k9,hs,gl,hq⟩
  obtain ⟨c',y6⟩:=hr;have l1:=I0 (L:=L) (Nat.le_max_left c c');have l2:=I0 (L:=L) (Nat.le_max_right c c');refine ⟨n,max c c',C0,k9,?_,VR l1 (Nat.le_refl n) gl,hq⟩;simp only[FB];rw[m9 (max c c') r o' (l2.2.1 f _ _ _ y6)];exact VU l1 hs
theorem Xw {d:Option Nat} {f:Nat} {cs:List AV} {x:BH} {xs:List BH} {g:Option (Nat × Bool)} {c5:List Nat} {l:List AI} {r:AV} {o':BC} (h:IR st g=some true) (hx:st.ev x = .fn false f (L.num f) cs) (hr:J2 L f (xs.map st.ev++cs) st.own r o') :
  AO L (⟨d,.o3 x xs,g,c5⟩::l) k st Q↔AO L l k { (st.dst d r) with own:=o' } Q:=by
 have m9 : ∀ c r' o1,FV L c f (xs.map st.ev++cs) st.own=some (r',o1)->EL (E2 L c) ⟨d,.o3 x xs,g,c5⟩ st=some { (st.dst d r') with own:=o1 }:=λ c r' o1 hc=>by
  have y6:(E2 L c).iv f (xs.map st.ev++cs) st.own=some (r',o1):=hc;simp [EL,h,e8,hx,ZQ,y6,St.app]
 constructor
 ·rintro ⟨n,c,C0,k9,hs,gl,hq⟩
  simp only[FB]at hs;cases hI:EL (E2 L c) ⟨d,.o3 x xs,g,c5⟩ st with
  | none=>simp [hI]at hs
  | some B8 =>
   simp only[hI]at hs;cases hp:FV L c f (xs.map st.ev++cs) st.own with
   | none =>
    have y6:(E2 L c).iv f (xs.map st.ev++cs) st.own=none:=hp;simp [EL,h,e8,hx,ZQ,y6]at hI
   | some x =>
    obtain ⟨r',o1⟩:=x;obtain ⟨rfl,rfl⟩:=J2.Ap ⟨c,hp⟩ hr;rw[m9 c r' o1 hp]at hI;obtain rfl:=Option.some.inj hI;exact ⟨n,c,C0,k9,hs,gl,hq⟩
 ·rintro ⟨n,c,C0,k9,hs,gl,hq⟩
  obtain ⟨c',y6⟩:=hr;have l1:=I0 (L:=L) (Nat.le_max_left c c');have l2:=I0 (L:=L) (Nat.le_max_right c c');refine ⟨n,max c c',C0,k9,?_,VR l1 (Nat.le_refl n) gl,hq⟩;simp only[FB];rw[m9 (max c c') r o' (l2.2.1 f _ _ _ y6)];exact VU l1 hs
theorem Vg {Q':St->Prop} (h:AK L k st Q) (hq : ∀ s,Q s->Q' s):AK L k st Q':=by
 obtain ⟨n,c,k9,hr,hh⟩:=h;exact ⟨n,c,k9,hr,hq _ hh⟩
theorem J2.intro {f:Nat} {fn:AFn} {vs:List AV} {o:BC} {r:AV} {o':BC} (hL:L f=some fn) (hp:vs.length=fn.cb) (h:AK L [.code fn.body] ⟨D7 0 vs,o⟩ (λ st=>(fn.res.mapM (HY st)).map OG=some r/\st.own=o')):J2 L f vs o r o':=by
 obtain ⟨n,c,k9,hr,h1,h2⟩:=h;refine ⟨max n c+1,?_⟩;rw[cR];simp only[hL,hp,if_true];rw[VR (I0 (L:=L) (Nat.le_max_right n c)) (Nat.le_max_left n c) hr];cases hm:fn.res.mapM (HY k9) with
 | none=>rw[hm]at h1;cases h1
 | some rs =>
  rw[hm]at h1;simp only[Option.map_some,Option.some.injEq]at h1;simp [hm,h1,h2]
theorem JM.intro {f:Nat} {fn:AFn} {vs:List AV} {r:AV} (hL:L f=some fn) (hp:vs.length=fn.cb) (h:AK L [.code fn.body] ⟨D7 0 vs,BC.emp⟩ (λ st=>((fn.res.mapM (HY st)).map OG).bind (XV st.own false)=some r/\B4 r)):JM L f vs r:=by
 obtain ⟨n,c,k9,hr,h1,h2⟩:=h;cases hm:(fn.res.mapM (HY k9)).map OG with
 | none=>rw[hm]at h1;cases h1
 | some r0 =>
  rw[hm]at h1;simp only[Option.bind_some]at h1;obtain ⟨q,hq⟩:=J2.intro (o:=BC.emp) (r:=r0) (o':=k9.own) hL hp ⟨n,c,k9,hr,hm,rfl⟩;refine ⟨q,?_⟩;unfold OX;simp [hq,h1,h2]
theorem JM.ev {f:Nat} {fn:AFn} {vs:List AV} {r:AV} (hL:L f=some fn) (h:JM L f vs r) (hs:fn.pj=false:=by rfl):Ev L f vs r:=by
 obtain ⟨n,h⟩:=h;have hs:L.pj f=false:=by simp only[Lib.pj,hL,hs]
 exact ⟨n,by unfold LM QQ;rw[hs];exact h⟩
theorem JM.cons {f:Nat} {q:Bool} {e:List AV} {es:List (List AV)} {vs:List AV} {r:AV} (h:JM L f (.sl q (e::es)::vs) r):Ev L f (.sl q (e::es)::vs) r:=by
 obtain ⟨n,h⟩:=h;refine ⟨n,?_⟩;unfold LM QQ;split
 ·rename_i heq;simp at heq
 ·exact h
theorem JM.nil {f:Nat} {fn:AFn} {q:Bool} {vs:List AV} {r:AV} (hL:L f=some fn) (h1:JM L f (.da (.bool true)::vs) r) (h2:JM L f (.da (.bool false)::vs) r) (hs:fn.pj=true:=by rfl):Ev L f (.sl q []::vs) r:=by
 obtain ⟨n,h1⟩:=h1;obtain ⟨n',h2⟩:=h2;have hs:L.pj f=true:=by simp only[Lib.pj,hL,hs]
 have k1:=dU (λ vs r h=>(I0 (L:=L) (Nat.le_max_left n n')).2.1 f vs BC.emp r h) h1;have k2:=dU (λ vs r h=>(I0 (L:=L) (Nat.le_max_right n n')).2.1 f vs BC.emp r h) h2;refine ⟨max n n',?_⟩;unfold LM QQ;rw[hs];simp only;have k1':OX (λ vs=>FV L (max n n') f vs BC.emp) (.da (.bool true)::vs)=some r:=k1;have k2':OX (λ vs=>FV L (max n n') f vs BC.emp) (.da (.bool false)::vs)=some r:=k2;rw[k1',k2'];simp
theorem Ev.intro {f:Nat} {fn:AFn} {vs:List AV} {r:AV} (hL:L f=some fn) (hp:vs.length=fn.cb) (h:AK L [.code fn.body] ⟨D7 0 vs,BC.emp⟩ (λ st=>((fn.res.mapM (HY st)).map OG).bind (XV st.own false)=some r/\B4 r)) (hs:fn.pj=false:=by rfl):Ev L f vs r :=
 (JM.intro hL hp h).ev hL hs
end
end Go.e6

namespace Go.e6
section
variable {L:Lib} {k:List It} {tm:Tm} {own:BC} {Q:St->Prop} {l:List AI} {c5:List Nat} {d:Nat}
theorem eL (i:Nat) (v:AV) (r:Tm) (j:Nat):g6 ((i,v)::r) j=if j=i then v else g6 r j:=rfl
theorem Aje (j:Nat):g6 [] j = .any:=rfl
theorem Ajb (i:Nat) (v:AV) (r:Tm) (l:List Nat):bf ((i,v)::r) l=if l.contains i then bf r l else (i,v)::bf r l:=rfl
theorem Ajc (l:List Nat):bf [] l=[]:=rfl
theorem AgU (i:Nat) (v:AV) (r:List AV):D7 i (v::r)=(i,v)::D7 (i+1) r:=rfl
end
end Go.e6

namespace Go.e6
section
variable {L:Lib} {k:List It} {tm:Tm} {own:BC} {st:St} {Q:St->Prop} {l:List AI} {c5:List Nat} {d:Nat} {dst:Option Nat}
section
variable {x y:BH} {kd:IntKind} {a b:Int}
end
def bJ (fn:AFn) (r:AV) (st:St):Prop:=((fn.res.mapM (HY st)).map OG).bind (XV st.own false)=some r/\B4 r
theorem Ev.fwd {f:Nat} {fn:AFn} {vs:List AV} {r:AV} (hL:L f=some fn) (hp:vs.length=fn.cb) (h:AK L [.code fn.body] ⟨D7 0 vs,BC.emp⟩ (bJ fn r)) (hs:fn.pj=false:=by rfl):Ev L f vs r:=Ev.intro hL hp h hs
theorem JM.fwd {f:Nat} {fn:AFn} {vs:List AV} {r:AV} (hL:L f=some fn) (hp:vs.length=fn.cb) (h:AK L [.code fn.body] ⟨D7 0 vs,BC.emp⟩ (bJ fn r)):JM L f vs r:=JM.intro hL hp h
end
attribute [irreducible] bJ
end Go.e6

namespace Go.e6
def pw (n:Int):Int:=2^n.toNat
theorem PX (n:Int):1<=pw n:=by
 have:0<pw n:=Int.pow_pos (by decide)
 omega
theorem XP {n m:Int} (h:n<=m):pw n<=pw m:=by
 unfold pw;have h':n.toNat<=m.toNat:=by omega
 have h2:=Nat.pow_le_pow_right (n:=2) (by decide) h';have h3:((2^n.toNat:Nat):Int)<=((2^m.toNat:Nat):Int):=by exact_mod_cast h2
 simpa using h3
theorem pV {n:Int} (h:n<=62):pw n<=4611686018427387904:=XP (m:=62) h
theorem Ah3 {n:Int} (h:1<=n):pw n=2*pw (n-1):=by
 unfold pw;have e:n.toNat=(n-1).toNat+1:=by omega
 rw[e,Int.pow_succ,Int.mul_comm]
theorem Ah4:pw 0=1:=rfl
theorem Ajt {a:Int} (h:0<=a) (h':a<=9223372036854775807):IntKind.i64.wrap a=a:=IntWalk.i64_in _ ⟨by omega,h'⟩
theorem AiL {k2:IntKind} {n:Int} (h:0<=n/\n<=62):FH .shl .i64 1 k2 n=some (.int .i64 (pw n)):=by
 have h1:=pV h.2;have h2:=PX n;have e:(1:Int)*2^(min n.toNat IntKind.i64.bits)=pw n:=by
  have:min n.toNat IntKind.i64.bits=n.toNat:=by simp only[IntKind.bits];omega
  rw[this,Int.one_mul];rfl
 simp only[FH];rw[if_neg (by omega),e,Ajt (by omega) (by omega)]
theorem AiM {k2:IntKind} {a n:Int} (h:0<=n/\n<=63):FH .shr .i64 a k2 n=some (.int .i64 (a/pw n)):=by
 have h2:=PX n;have e:(2:Int)^(min n.toNat IntKind.i64.bits)=pw n:=by
  have:min n.toNat IntKind.i64.bits=n.toNat:=by simp only[IntKind.bits];omega
  rw[this];rfl
 simp only[FH];rw[if_neg (by omega),e,Int.fdiv_eq_ediv_of_nonneg _ (by omega)]
theorem Qr {a m:Int} (hm:0<m):a.tmod m=if 0<=a\/a%m=0 then a%m else a%m-m:=by
 have h:=Int.tmod_eq_emod (a:=a) (b:=m);rw[h];have hd:m ∣ a↔a%m=0:=Int.dvd_iff_emod_eq_zero;by_cases h0:0<=a\/a%m=0
 ·rw[if_pos h0,if_pos (by rcases h0 with h0|h0;exact Or.inl h0;exact Or.inr (hd.2 h0))];omega
 ·rw[if_neg h0,if_neg (λ h=>h0 (h.imp id hd.1))]
  have:(m.natAbs:Int)=m:=by omega
  omega
theorem Qn {a m:Int} (hm:0<m):a.tdiv m=if 0<=a\/a%m=0 then a/m else a/m+1:=by
 have h:=Int.tdiv_eq_ediv (a:=a) (b:=m);rw[h];have hd:m ∣ a↔a%m=0:=Int.dvd_iff_emod_eq_zero;by_cases h0:0<=a\/a%m=0
 ·rw[if_pos h0,if_pos (by rcases h0 with h0|h0;exact Or.inl h0;exact Or.inr (hd.2 h0))];omega
 ·rw[if_neg h0,if_neg (λ h=>h0 (h.imp id hd.1)),Int.sign_eq_one_of_pos hm]
theorem AeW {a m:Int} (hm:1<=m) (h : -9223372036854775808<=a/\a<=9223372036854775807) : -9223372036854775808<=a/m/\a/m<=9223372036854775807:=by
 constructor
 ·rw[Int.le_ediv_iff_mul_le (by omega)]
  have:=Int.mul_le_mul_of_nonpos_left (a := -9223372036854775808) (b:=m) (c:=1) (by omega) hm
  omega
 ·have:a/m<9223372036854775808:=by
   rw[Int.ediv_lt_iff_lt_mul (by omega)];have:=Int.mul_le_mul_of_nonneg_left (c:=9223372036854775808) (a:=1) (b:=m) hm (by omega)
   omega
  omega
section
variable {L:Lib} {k:List It} {tm:Tm} {own:BC} {Q:St->Prop} {l:List AI} {c5:List Nat} {d:Nat} {x y:BH} {a b n p:Int} {k2:IntKind}
end
end Go.e6

namespace Go.e6
theorem aS (ts:List Nat) (j:Nat) : ∀ tm:Tm,g6 (bf tm ts) j=if ts.contains j then .any else g6 tm j
 | []=>by simp [Ajc,Aje]
 | (i,u)::r=>by
  rw[Ajb];by_cases h:ts.contains i=true
  ·rw[if_pos h,aS ts j r,eL]
   by_cases h2:j=i
   ·subst h2;rw[if_pos h,if_pos h]
   ·rw[if_neg h2]
  ·rw[if_neg h,eL,eL,aS ts j r]
   by_cases h2:j=i
   ·subst h2;rw[if_pos rfl,if_pos rfl,if_neg h]
   ·rw[if_neg h2,if_neg h2]
def WJ (j:Nat):List Nat->Bool
 | []=>false
 | i::r=>bif Nat.beq j i then true else WJ j r
abbrev GJ (n:Int):List AV:=[.int .i64 n]
section
variable {L:Lib} {k:List It} {tm:Tm} {own:BC} {Q:St->Prop} {l:List AI} {c5:List Nat} {d:Nat} {x i:BH} {kd:IntKind} {a:Int} {q:Bool} {α:Type} {es:List α} {enc:α->List AV} {z:Nat}
end
end Go.e6

namespace Go.e6
inductive B6 where
 | bx (cs:List AV)
 | rw (z:Nat) (es:List (List AV))
 | bs (z:Nat) (es:List (List AV))
 | mx (rows:List (Option (Nat × List (List AV))))
 | hx (i:Nat) (v:AV) (rows:List (Option (Nat × List (List AV))))
 | vw (w:List Nat) (rows:List (Option (Nat × List (List AV))))
abbrev Mem:=List (Nat × Nat × B6)
def c9:Mem->Nat->Option (Nat × B6)
 | [],_=>none
 | (k,s,c)::r,j=>bif Nat.beq j k then some (s,c) else c9 r j
def c8 (M:Mem) (k t:Nat):Option B6:=match c9 M k with
 | none=>none
 | some (_,c)=>match t with
  | 0=>some c
  | i+1=>match c with
   | .mx rows=>match rows[i]? with
    | some (some (z,es))=>some (.rw z es)
    | _=>none
   | .hx _ _ rows=>match rows[i]? with
    | some (some (z,es))=>some (.rw z es)
    | _=>none
   | .vw _ rows=>match rows[i]? with
    | some (some (z,es))=>some (.rw z es)
    | _=>none
   | _=>none
def o7 (j:Nat):Mem->Mem
 | []=>[]
 | (k,s,c)::r=>bif Nat.beq j k then o7 j r else (k,s,c)::o7 j r
def tg:Tm->Nat->AV
 | [],_ => .any
 | (i,v)::r,j=>bif Nat.beq j i then v else tg r j
def bit (m i:Nat):Bool:=Nat.beq (Nat.land (Nat.shiftRight m i) 1) 1
def mask:Nat->List Nat->Nat
 | m,[]=>m
 | m,t::ts=>mask (Nat.lor m (Nat.shiftLeft 1 t)) ts
def wu (m:Nat):Tm->Tm
 | []=>[]
 | (i,v)::r=>bif bit m i then wu m r else (i,v)::wu (Nat.lor m (Nat.shiftLeft 1 i)) r
def fN (n:Nat) (K:Nat->Prop):Prop:=match n with
 | 0=>K 0
 | k+1=>K (k+1)
def tk:AV->Bool
 | .int _ _=>true | .bool _=>true | .da _=>true | .sl _ _=>true | .nil=>true
 | _=>false
def GH:List AV->Bool
 | []=>true
 | v::r=>bif tk v then GH r else false
def cM:List (List AV)->Bool
 | []=>true
 | v::r=>bif GH v then cM r else false
def UJ (s:Nat):AV->Bool
 | .row k _ _ _ _=>Nat.beq k s | .ptr k _ _ _=>Nat.beq k s
 | _=>false
def OH (s:Nat):List AV->Bool
 | []=>false
 | v::r=>bif UJ s v then true else OH s r
def PI (s:Nat):List (List AV)->Bool
 | []=>false
 | v::r=>bif OH s v then true else PI s r
def WO (s:Nat):AV->Bool
 | .agg cs=>OH s cs
 | .fn _ _ _ cs=>OH s cs
 | v=>UJ s v
def aK (s:Nat):List AV->Bool
 | []=>false
 | v::r=>bif WO s v then true else aK s r
def UK (s:Nat):AV->Bool
 | .g8 vs=>aK s vs
 | v=>WO s v
def OJ (s:Nat):Tm->Bool
 | []=>false
 | (_,v)::r=>bif UK s v then true else OJ s r
def M5 (s:Nat):B6->Bool
 | .bx cs=>OH s cs
 | .rw _ _=>false
 | .bs _ es=>PI s es
 | .mx _=>false
 | .hx _ _ _=>false
 | .vw _ _=>false
def KP (s:Nat):Mem->Bool
 | []=>false
 | (k,_,c)::r=>bif Nat.beq s k then true else bif M5 s c then true else KP s r
def V9 (s:Nat):AV->Bool
 | .row k t _ _ _=>bif Nat.beq k s then (match t with|0=>false|_+1=>true) else false
 | .ptr k t _ _=>bif Nat.beq k s then (match t with|0=>false|_+1=>true) else false
 | _=>false
def U8 (s:Nat):List AV->Bool
 | []=>false
 | v::r=>bif V9 s v then true else U8 s r
def X9 (s:Nat):AV->Bool
 | .agg cs=>U8 s cs
 | .fn _ _ _ cs=>U8 s cs
 | v=>V9 s v
def ZN (s:Nat):List AV->Bool
 | []=>false
 | v::r=>bif X9 s v then true else ZN s r
def W7 (s:Nat):AV->Bool
 | .g8 vs=>ZN s vs
 | v=>X9 s v
def U9 (s:Nat):Tm->Bool
 | []=>false
 | (_,v)::r=>bif W7 s v then true else U9 s r
def ZO (s:Nat):List (List AV)->Bool
 | []=>false
 | v::r=>bif U8 s v then true else ZO s r
def WA (s:Nat):B6->Bool
 | .bx cs=>U8 s cs
 | .bs _ es=>ZO s es
 | _=>false
def QI (s:Nat):Mem->Bool
 | []=>false
 | (_,_,c)::r=>bif WA s c then true else QI s r
def used (k:Nat) (tm:Tm) (M:Mem):Bool:=bif KP k M then true else OJ k tm
def iQ (tm:Tm) (M:Mem):List Nat->(Nat->Prop)->Prop
 | [],_=>False
 | k::r,K=>bif used k tm M then iQ tm M r K else K k
def JV (s:Nat) (tm:Tm) (M:Mem) (K:Nat->Prop):Prop:=iQ tm M [s,s+1000000,s+2000000,s+3000000] K
def fL:List AV->(List AV->Prop)->Prop
 | [],K=>K []
 | v::r,K=>fL r λ r'=>K (v::r')
def fV (v:AV) (K:AV->Prop):Prop:=match v with
 | .int k n=>K (.int k n) | .bool b=>K (.bool b) | .sl l es=>K (.sl l es) | .row s t z o n=>K (.row s t z o n)
 | .nil=>K .nil | .ptr s t i j=>K (.ptr s t i j) | .u7 cs=>K (.u7 cs) | .agg cs=>fL cs λ cs=>K (.agg cs)
 | .fn p f g cs=>fL cs λ cs=>K (.fn p f g cs)
 | .g8 vs=>fL vs λ vs=>K (.g8 vs) | .da c=>K (.da c) | .any=>False
def fC (v:AV) (K:List AV->Prop):Prop:=match v with
 | .agg cs=>fL cs K
 | .fn _ _ _ _=>False
 | .g8 _=>False
 | .any=>False
 | v=>fV v λ v=>K [v]
def fB (b:Bool) (K:Bool->Prop):Prop:=match b with
 | true=>K true
 | false=>K false
def fT:Tm->(Tm->Prop)->Prop
 | [],K=>K []
 | (i,v)::r,K=>fT r λ r'=>K ((i,v)::r')
def fM:Mem->(Mem->Prop)->Prop
 | [],K=>K []
 | (k,s,c)::r,K=>fM r λ r'=>K ((k,s,c)::r')
def fF (v:AV) (K:AV->Prop):Prop:=match v with
 | .int k n=>K (.int k n) | .bool b=>K (.bool b) | .sl l es=>K (.sl l es) | .row s t z o n=>K (.row s t z o n)
 | .nil=>K .nil | .ptr s t i j=>K (.ptr s t i j) | .da c=>K (.da c)|_=>False
def f2 (v:AV) (K:AV->Prop):Prop:=match v with
 | .int k n=>K (.int k n) | .bool b=>K (.bool b) | .sl l es=>K (.sl l es) | .row s t z o n=>K (.row s t z o n)
 | .nil=>K .nil | .ptr s t i j=>K (.ptr s t i j) | .da c=>K (.da c) | .agg cs=>fL cs λ cs=>K (.agg cs) | .fn p f g cs=>fL cs λ cs=>K (.fn p f g cs)|_=>False
def qk (agg:Bool) (ds:List AV) (K:AV->Prop):Prop:=match agg with
 | true=>K (.agg ds)
 | false=>match ds with
  | [c]=>fF c K
  | _=>False
def A8 (p q A B:Prop):Prop:=(p->A)/\(q->B)
def BT (p A:Prop):Prop:=p/\A
def A5 (op:BinOp) (k:IntKind) (a:Int) (k':IntKind) (b:Int) (K:AV->Prop):Prop := ∃ v,FH op k a k' b=some v/\K v
def EW (op:UnOp) (k:IntKind) (n:Int) (K:AV->Prop):Prop := ∃ v,XX op (.int k n)=some v/\K v
structure BV (k:IntKind) (n:Int) (K:Int->Prop):Prop where h:K (k.wrap n)
def BJ (es:List (List AV)) (a:Int) (z:Nat) (K:List AV->Prop):Prop:=0<=a /\ ∃ cs,es[a.toNat]? = some cs/\cs.length=z/\K cs
def CS (es:List (List AV)) (i j n:Nat) (K:List AV->Prop):Prop := ∃ cs ds,es[i]? = some cs/\part cs j n=some ds/\K ds
def CR (es:List (List AV)) (i j:Nat) (vs:List AV) (K:List (List AV)->Prop):Prop := ∃ cs,es[i]? = some cs/\j+vs.length<=cs.length/\K (es.set i (splice cs j vs))
def EU (a b:Int) (bytes:Nat) (zero:List AV) (K:List (List AV)->Nat->Prop):Prop:=(0<=a/\a<=b/\b*bytes<=IW/\b<=9223372036854775807)/\K (List.replicate a.toNat zero) a.toNat
structure BM (es:List (List AV)) (K:Nat->Prop):Prop where h:K es.length
def DK (es:List (List AV)) (len:Nat) (ys:List (List AV)) (z bytes:Nat) (K:List (List AV)->Nat->Prop):Prop :=
 len<=es.length/\(∀ e∈ys,e.length=z)/\(len+ys.length)*bytes<=IW/\len+ys.length<=9223372036854775807/\K (es.take len++ys) (len+ys.length)
def EE (ys:List (List AV)) (z bytes:Nat) (K:List (List AV)->Nat->Prop):Prop :=
 (∀ e∈ys,e.length=z)/\ys.length*bytes<=IW/\ys.length<=9223372036854775807/\K ys ys.length
def II (es:List (List AV)) (off len:Nat) (ys:List (List AV)) (z:Nat) (K:List (List AV)->Nat->Prop):Prop :=
 off+len<=es.length/\(∀ e∈ys,e.length=z)/\K (es.take off++ys.take len++es.drop (off+min ys.length len)) (min ys.length len)
def C8 (es:List (List AV)) (off len:Nat) (K:List (List AV)->Prop):Prop:=off+len<=es.length/\K ((es.drop off).take len)
def JD:List AV->Bool
 | []=>true
 | v::r=>match v with
  | .int _ _=>JD r | .bool _=>JD r | .da _=>JD r | .sl _ _=>JD r
  | _=>false
def nl:AV->AV
 | .nil => .sl false []
 | v=>v
def SI:List AV->Bool
 | []=>true
 | v::r=>match v with
  | .int _ _=>SI r | .bool _=>SI r | .da _=>SI r | .sl _ _=>SI r | .nil=>SI r
  | _=>false
def B5 (es:List (List AV)) (off len:Nat) (K:List (List AV)->Prop):Prop:=off+len<=es.length/\(∀ e∈es,SI e=true)/\K (((es.drop off).take len).map λ e=>e.map nl)
def HE (rows:List (Option (Nat × List (List AV)))) (i:Nat) (K:Option (Nat × List (List AV))->Prop):Prop := ∃ r,rows[i]? = some r/\K r
def FL (rows:List (Option (Nat × List (List AV)))) (i:Nat) (K:Nat->List (List AV)->Prop):Prop := ∃ z es,rows[i]? = some (some (z,es))/\K z es
def HO (rows:List (Option (Nat × List (List AV)))) (i z:Nat) (es:List (List AV)) (K:List (Option (Nat × List (List AV)))->Prop):Prop:=i<rows.length/\K (rows.set i (some (z,es)))
def HG (rows:List (Option (Nat × List (List AV)))) (i z:Nat) (es es':List (List AV)) (K:List (Option (Nat × List (List AV)))->Prop):Prop:=es'.length=es.length/\K (rows.set i (some (z,es')))
def HN (a b:Int) (bytes:Nat) (K:List (Option (Nat × List (List AV)))->Nat->Prop):Prop:=(0<=a/\a<=b/\b*bytes<=IW/\b<=9223372036854775807)/\K (List.replicate a.toNat none) a.toNat
def G2 (rows:List (Option (Nat × List (List AV)))) (len:Nat) (r:Option (Nat × List (List AV))) (bytes:Nat) (K:List (Option (Nat × List (List AV)))->Nat->Prop):Prop :=
 len=rows.length/\(len+1)*bytes<=IW/\len+1<=9223372036854775807/\K (rows++[r]) (len+1)
def XU (q:Bool):List (Option (Nat × List (List AV)))->List (List AV)
 | []=>[]
 | none::r=>[.sl false []]::XU q r
 | some (_,es)::r=>[.sl q es]::XU q r
def G5 (q:Bool) (rows:List (Option (Nat × List (List AV)))) (off len:Nat) (K:List (List AV)->Prop):Prop :=
 off=0/\len=rows.length/\(∀ z es,some (z,es)∈rows -> ∀ e∈es,JD e=true)/\K (XU q rows)
def DB (lo hi:Option Int) (len:Nat) (K:Nat->Nat->Prop):Prop :=
 ∃ a h:Nat,(match lo with|none=>a=0|some x=>0<=x/\a=x.toNat)/\(match hi with|none=>h=len|some x=>0<=x/\x<=len/\h=x.toNat)/\a<=h/\K a h
def FG (z:Nat) (es:List (List AV)) (lo hi:Option Int) (K:List (List AV)->Prop):Prop:=(∀ e∈es,e.length=z)/\DB lo hi es.length λ a h=>K ((es.take h).drop a)
def AP (L:Lib) (f:Nat) (vs:List AV) (K:AV->Prop):Prop := ∃ r,Ev L f vs r/\K r
def XZ (n:Nat) (cs ds:List AV) (K:Bool->Prop):Prop := ∃ a b,NV cs=some a/\NV ds=some b/\a.length=n/\b.length=n/\K (decide (a=b))
def iC:List AV->Bool
 | []=>true
 | .int _ _::r=>iC r
 | _=>false
def FF (L:Lib) (f:Nat) (vs:List AV) (K:Nat->List (List AV)->Nat->Prop):Prop := ∃ z es n,PO L f vs z es/\n=es.length/\K z es n
abbrev IY:=Nat->Nat->Nat × Nat
def B8 (σ:IY):AV->AV
 | .row k t z o n => .row (σ k t).1 (σ k t).2 z o n
 | .ptr k t i j => .ptr (σ k t).1 (σ k t).2 i j
 | v=>v
def C0 (σ:IY):AV->AV
 | .agg cs => .agg (cs.map (B8 σ))
 | .fn p f g cs => .fn p f g (cs.map (B8 σ))
 | v=>B8 σ v
def CI (σ:IY):AV->AV
 | .g8 vs => .g8 (vs.map (C0 σ))
 | v=>C0 σ v
def DE (σ:IY) (k:Nat):Nat->List (Option (Nat × List (List AV)))->List (List AV)
 | _,[]=>[]
 | i,none::r=>[.nil]::DE σ k (i+1) r
 | i,some (z,es)::r=>[.row (σ k (i+1)).1 (σ k (i+1)).2 z 0 es.length]::DE σ k (i+1) r
def B6.e7 (σ:IY) (k:Nat):B6->GE
 | .bx cs=>⟨cs.length,[cs.map (B8 σ)]⟩
 | .rw z es=>⟨z,es⟩
 | .bs z es=>⟨z,es.map λ cs=>cs.map (B8 σ)⟩
 | .mx rows=>⟨1,DE σ k 0 rows⟩
 | .hx i v rows=>⟨1,(DE σ k 0 rows).set i [v]⟩
 | .vw w rows=>⟨1,w.map λ t=>((DE σ k 0 rows)[t]?).getD []⟩
def B6.nm:B6->Bool
 | .bx _=>false
 | _=>true
def HU (s:Nat):Bool:=Nat.blt s 900000
structure QH (σ:IY) (own:BC) (M:Mem):Prop where
 site : ∀ k s c,c9 M k=some (s,c)->(σ k 0).1=s
 e7 : ∀ k t c,c8 M k t=some c->(own (σ k t).1).e7 (σ k t).2=some (c.e7 σ k)
 old : ∀ k t c,c8 M k t=some c->(σ k t).2<(own (σ k t).1).j5
 inj : ∀ k t k' t' c c',c8 M k t=some c->c8 M k' t'=some c'->σ k t=σ k' t'->k=k'/\t=t'
 low : ∀ k t c,c8 M k t=some c->c.nm=true->HU (σ k t).1=true
structure RX (σ:IY) (tm:Tm) (M:Mem) (st:St):Prop where
 tm : ∀ j,tg tm j = .any\/g6 st.tm j=CI σ (tg tm j)
 sat:QH σ st.own M
def SQ (Q:Tm->Mem->Prop) (st:St):Prop := ∃ σ tm M,RX σ tm M st/\Q tm M
def AH (L:Lib) (k:List It) (tm:Tm) (M:Mem) (Q:Tm->Mem->Prop):Prop := ∀ σ st,RX σ tm M st->AK L k st (SQ Q)
def rU (L:Lib) (l:List AI) (k:List It) (tm:Tm) (M:Mem) (Q:Tm->Mem->Prop):Prop := ∀ σ st,RX σ tm M st->AO L l k st (SQ Q)
def CG (L:Lib) (f:Nat) (vs:List AV) (tm:Tm) (M:Mem) (K:AV->Mem->Prop):Prop :=
 ∀ σ own,QH σ own M -> ∃ r n0 σ' M',J2 L f (vs.map (CI σ)) own (CI σ' r) n0/\QH σ' n0 M'/\(∀ j,CI σ' (tg tm j)=CI σ (tg tm j))/\K r M'
def Yo (L:Lib) (s f key:Nat) (rest:List AV) (M:Mem) (K:AV->Mem->Prop):Prop :=
 ∃ (cells fy:List AV) (kd:IntKind) (n:Int),c9 M key=some (s,.bx cells)/\GH cells=true/\GH fy=true/\(∀ (t:Nat) (q:DM),q.e7 t=some ⟨cells.length,[cells]⟩->sE L s f (.ptr s t 0 0::rest) q (.int kd n) (q.q6 t (some ⟨fy.length,[fy]⟩)))/\K (.int kd n) ((key,s,.bx fy)::M)
def cv:AV->AV
 | .agg cs=>bif GH cs then .agg cs else .any
 | .g8 [] => .g8 []
 | .u7 _ => .any
 | .fn p f g [] => .fn p f g []
 | v=>bif tk v then v else .any
def ex (tm:Tm):BH->AV
 | .t n=>tg tm n
 | .c v=>cv v
def kq (k k':IntKind):Bool:=decide (k=k')
def lE (op:BinOp) (k:IntKind) (a:Int) (k':IntKind) (b:Int) (K:AV->Prop):Prop:=match op with
 | .lss=>bif kq k k' then A8 (a<b) (b<=a) (K (.bool true)) (K (.bool false)) else False
 | .leq=>bif kq k k' then A8 (a<=b) (b<a) (K (.bool true)) (K (.bool false)) else False
 | .gtr=>bif kq k k' then A8 (b<a) (a<=b) (K (.bool true)) (K (.bool false)) else False
 | .geq=>bif kq k k' then A8 (b<=a) (a<b) (K (.bool true)) (K (.bool false)) else False
 | .eql=>bif kq k k' then A8 (a=b) (a≠b) (K (.bool true)) (K (.bool false)) else False
 | .neq=>bif kq k k' then A8 (a≠b) (a=b) (K (.bool true)) (K (.bool false)) else False
 | op=>A5 op k a k' b K
noncomputable def YT (mx:Bool) (k:IntKind) (K:AV->Prop) (a:Int) (l:List AV):Prop :=
 List.rec (motive:=λ_=>Int->Prop) (λ a=>K (.int k a)) (λ v _ ih a=>match v with
  | .int _ b=>bif mx then A8 (a<b) (b<=a) (ih b) (ih a) else A8 (b<a) (a<=b) (ih b) (ih a)
  | _=>False) l a
def yn:List AV->Nat->AV
 | [],_ => .any
 | v::_,0=>v
 | _::r,n+1=>yn r n
def XN (s:Nat):List Nat->Bool
 | []=>true
 | c5 => !(WJ s c5)
def YW:List Nat->Bool
 | []=>true
 | s::r=>bif HU s then false else YW r
def qJ (M:Mem) (k t:Nat) (K:Nat->List (List AV)->Prop):Prop:=match c9 M k with
 | some (_,c)=>match t with
  | 0=>match c with
   | .rw z es=>K z es
   | _=>False
  | i+1=>match c with
   | .mx rows=>FL rows i K
   | _=>False
 | none=>False
def gP (M:Mem) (v:AV) (K:List (List AV)->Prop):Prop:=match v with
 | .sl _ es=>K es
 | .nil=>K []
 | .da (.bool _)=>K []
 | .row key t z off len=>qJ M key t λ z' es=>bif Nat.beq z z' then C8 es off len K else False
 | _=>False
def Y9 (q:Bool) (M:Mem) (c5:List Nat) (v:AV) (K:AV->Prop):Prop:=match v with
 | .int k n=>K (.int k n)
 | .bool b=>K (.bool b)
 | .sl l es=>K (.sl l es)
 | .da c=>K (.da c)
 | .nil=>K (.sl false [])
 | .row key t z off len=>match c9 M key with
  | some (s,.rw z' es)=>match t with
   | 0=>bif Nat.beq z z' then bif XN s c5 then B5 es off len λ es=>K (.sl q es) else False else False
   | _+1=>False
  | some (_,.mx rows)=>match t with
   | 0=>False
   | i+1=>match c5 with
    | []=>FL rows i λ z' es=>bif Nat.beq z z' then B5 es off len λ es=>K (.sl q es) else False
    | b::r=>bif YW (b::r) then FL rows i λ z' es=>bif Nat.beq z z' then B5 es off len λ es=>K (.sl q es) else False else False
  | _=>False
 | _=>False
noncomputable def jK (q:Bool) (M:Mem) (c5:List Nat) (l:List AV):(List AV->Prop)->Prop :=
 List.rec (motive:=λ_=>(List AV->Prop)->Prop) (λ K=>K []) (λ v _ ih K=>Y9 q M c5 v λ v'=>ih λ r'=>K (v'::r')) l
noncomputable def qP (q:Bool) (M:Mem) (c5:List Nat) (l:List (List AV)):(List (List AV)->Prop)->Prop :=
 List.rec (motive:=λ_=>(List (List AV)->Prop)->Prop) (λ K=>K []) (λ v _ ih K=>jK q M c5 v λ v'=>ih λ r'=>K (v'::r')) l
noncomputable def eD (q:Bool) (M:Mem) (c5:List Nat) (v:AV) (K:AV->Prop):Prop:=match v with
 | .row key 0 z off len=>match c9 M key with
  | some (s,.bs z' es)=>bif Nat.beq z z' then bif XN s c5 then bif Nat.beq off 0 then BT (len=es.length) (qP q M c5 es λ es=>K (.sl q es)) else False else False else False
  | some (_,.mx rows)=>match c5 with
   | []=>bif Nat.beq z 1 then G5 q rows off len λ es=>K (.sl q es) else False
   | _::_=>False
  | _=>Y9 q M c5 (.row key 0 z off len) K
 | v=>Y9 q M c5 v K
noncomputable def qQ (q:Bool) (M:Mem) (c5:List Nat) (l:List AV):(List AV->Prop)->Prop :=
 List.rec (motive:=λ_=>(List AV->Prop)->Prop) (λ K=>K []) (λ v _ ih K=>eD q M c5 v λ v'=>ih λ r'=>K (v'::r')) l
noncomputable def WQ (q:Bool) (M:Mem) (c5:List Nat) (v:AV) (K:AV->Prop):Prop:=match v with
 | .agg cs=>qQ q M c5 cs λ cs=>K (.agg cs)
 | v=>eD q M c5 v K
noncomputable def eE (tm:Tm) (M:Mem) (c5:List Nat) (l:List BH):(List AV->Prop)->Prop :=
 List.rec (motive:=λ_=>(List AV->Prop)->Prop) (λ K=>K []) (λ x _ ih K=>WQ true M c5 (ex tm x) λ v=>ih λ vs=>K (v::vs)) l
noncomputable def jL (M:Mem) (c5:List Nat) (v:AV) (K:AV->Prop):Prop:=match v with
 | .nil=>K .nil
 | v=>WQ true M c5 v K
noncomputable def qR (tm:Tm) (M:Mem) (c5:List Nat) (l:List BH):(List AV->Prop)->Prop :=
 List.rec (motive:=λ_=>(List AV->Prop)->Prop) (λ K=>K []) (λ x _ ih K=>jL M c5 (ex tm x) λ v=>ih λ vs=>K (v::vs)) l
noncomputable def Z4 (tm:Tm) (l:List BH):(List AV->Prop)->Prop :=
 List.rec (motive:=λ_=>(List AV->Prop)->Prop) (λ K=>K []) (λ x _ ih K=>fV (ex tm x) λ v=>ih λ vs=>K (v::vs)) l
def iM (tm:Tm) (o:Option BH) (K:Option Int->Prop):Prop:=match o with
 | none=>K none
 | some x=>match ex tm x with
  | .int _ n=>K (some n)
  | _=>False
def dJ (es:List (List AV)) (K:Nat->Prop):Prop:=match es with
 | []=>K 0
 | [_]=>K 1
 | [_,_]=>K 2
 | [_,_,_]=>K 3
 | [_,_,_,_]=>K 4
 | es=>K es.length
noncomputable def lI (tm:Tm) (z:Nat) (l:List BH):(List (List AV)->Prop)->Prop :=
 List.rec (motive:=λ_=>(List (List AV)->Prop)->Prop) (λ K=>K []) (λ x _ ih K=>fC (ex tm x) λ cs=>bif Nat.beq cs.length z then ih λ es=>K (cs::es) else False) l
noncomputable def nX (tm:Tm) (ps:List (Nat × Nat × BH)):List AV->(List AV->Prop)->Prop :=
 List.rec (motive:=λ_=>List AV->(List AV->Prop)->Prop) (λ cells K=>K cells) (λ p _ ih cells K=>fC (ex tm p.2.2) λ vs=>bif Nat.beq vs.length p.2.1 then bif Nat.ble (p.1+p.2.1) cells.length then fL (splice cells p.1 vs) λ cells=>ih cells K else False else False) ps
def XC (tm:Tm):List BH->List AV
 | []=>[]
 | x::r=>ex tm x::XC tm r
def X5 (tb:List Nat) (n:Int) (K:Nat->Prop):Prop:=0<=n /\ ∃ v,tb[n.toNat]? = some v/\K v
noncomputable def pM (tm:Tm) (l:List BH):(List AV->Prop)->Prop :=
 List.rec (motive:=λ_=>(List AV->Prop)->Prop) (λ K=>K []) (λ x _ ih K=>fF (ex tm x) λ v=>ih λ cs=>K (v::cs)) l
def pR:AV->Bool
 | .agg _=>false | .fn _ _ _ _=>false | .g8 _=>false | .any=>false
 | _=>true
def dQ:List AV->Bool
 | []=>true
 | v::r=>bif pR v then dQ r else false
def X6 (M:Mem) (v:AV):Option (Nat × Option (Nat × Nat × Nat)):=match v with
 | .row ky 0 1 0 1=>match c9 M ky with
  | some (_,.bs 1 [[.row k2 0 z 0 n]])=>some (ky,some (k2,z,n))
  | some (_,.rw 1 [[.nil]])=>some (ky,none)
  | _=>none
 | _=>none
def dH (z:Nat):List (List AV)->Bool
 | []=>true
 | e::r=>bif Nat.beq e.length z then dH z r else false
def kY (tm:Tm) (M:Mem) (s z bytes:Nat) (x y:BH) (K:AV->Mem->Prop):Prop:=match ex tm y with
 | .row ky 0 zy 0 ny=>match c9 M ky with
  | some (_,.bs z2 ki)=>bif Nat.beq zy z then bif Nat.beq z2 z then bif Nat.beq ny ki.length then bif dH z ki then (match ex tm x with
   | .nil=>bif HU s then dJ ki λ n=>BT (n*bytes<=140737488355328/\n<=9223372036854775807) (JV s tm M λ k=>K (.row k 0 z 0 n) ((k,s,.bs z ki)::M)) else False
   | .row kx 0 zx 0 len=>bif Nat.beq zx z then (match c9 M kx with
    | some (s',.bs z1 vn)=>bif Nat.beq z1 z then bif Nat.beq len vn.length then fM (o7 kx M) λ M'=>dJ (vn++ki) λ n=>BT (n*bytes<=140737488355328/\n<=9223372036854775807) (JV s tm M λ k=>K (.row k 0 z 0 n) ((k,s',.bs z (vn++ki))::M')) else False else False
    | _=>False) else False
   | _=>False) else False else False else False else False
  | _=>False
 | _=>False
def rD (tm:Tm) (M:Mem) (K:AV->Mem->Prop) (n:Nat) (x v:BH):Prop:=match ex tm x with
 | .ptr key t i j=>fC (ex tm v) λ vs=>bif Nat.beq vs.length n then (match c9 M key with
  | some (s,c)=>match t with
   | 0=>match c with
    | .bx cs=>bif Nat.beq i 0 then bif Nat.ble (j+vs.length) cs.length then fL (splice cs j vs) λ er=>K (.g8 []) ((key,s,.bx er)::M) else False else False
    | .rw z es=>bif GH vs then CR es i j vs λ es'=>K (.g8 []) ((key,s,.rw z es')::M) else False
    | .bs _ _=>False
    | .mx rows=>match vs with
     | [.row y7 0 z 0 m]=>bif Nat.beq key y7 then False else bif U9 key tm then False else bif QI key M then False else bif Nat.beq j 0 then (match c9 M y7 with
      | some (_,.rw z' es)=>bif Nat.beq z z' then fM (o7 y7 M) λ M'=>BT (m=es.length) (HO rows i z es λ fp=>K (.g8 []) ((key,s,.mx fp)::M')) else False
      | _=>False) else False
     | [.row y7 (t2+1) z 0 m]=>bif Nat.beq key y7 then bif Nat.beq j 0 then FL rows t2 λ z' es=>bif Nat.beq z z' then BT (m=es.length/\i<rows.length) (K (.g8 []) ((key,s,.vw ((List.range rows.length).set i t2) rows)::M)) else False else False else False
     | _=>False
    | .hx i0 _ rows=>match vs with
     | [.row y7 0 z 0 m]=>bif Nat.beq key y7 then False else bif U9 key tm then False else bif QI key M then False else bif Nat.beq j 0 then (match c9 M y7 with
      | some (_,.rw z' es)=>bif Nat.beq z z' then fM (o7 y7 M) λ M'=>BT (i=i0/\m=es.length) (HO rows i z es λ fp=>K (.g8 []) ((key,s,.mx fp)::M')) else False
      | _=>False) else False
     | _=>False
    | .vw w rows=>match vs with
     | [.row y7 (t2+1) z 0 m]=>bif Nat.beq key y7 then bif Nat.beq j 0 then FL rows t2 λ z' es=>bif Nat.beq z z' then BT (m=es.length/\i<w.length /\ ∀ t∈w,t<rows.length) (K (.g8 []) ((key,s,.vw (w.set i t2) rows)::M)) else False else False else False
     | _=>False
   | i'+1=>match c with
    | .mx rows=>bif GH vs then FL rows i' λ z es=>CR es i j vs λ es'=>HG rows i' z es es' λ fp=>K (.g8 []) ((key,s,.mx fp)::M) else False
    | _=>False
  | none=>False) else False
 | _=>False
def DG (r:AV) (K:AV->Prop):Prop:=(QG r\/ZI r)/\K (RO r)
noncomputable def XE (L:Lib) (tm:Tm) (M:Mem) (c5:List Nat) (K:AV->Mem->Prop):F5->Prop
 | .a7 x=>fV (ex tm x) λ v=>K v M
 | .cn s z=>bif HU s then JV s tm M λ k=>K (.row k 0 z 0 0) ((k,s,.rw z [])::M) else False
 | .pick c a b=>match ex tm c with
  | .bool true=>fV (ex tm a) λ v=>K v M
  | .bool false=>fV (ex tm b) λ v=>K v M
  | _=>False
 | .bin op x y=>match ex tm x,ex tm y with
  | .int k a,.int k' b=>lE op k a k' b λ v=>K v M
  | _,_=>False
 | .oa ne n x y=>match ex tm x,ex tm y with
  | .agg cs,.agg ds=>XZ n cs ds λ b=>fB (bif ne then !b else b) λ c=>K (.bool c) M
  | _,_=>False
 | .beq ne x y=>match ex tm x,ex tm y with
  | .bool a,.bool b=>fB (bif ne then !(a == b) else a == b) λ c=>K (.bool c) M
  | _,_=>False
 | .un op x=>match ex tm x with
  | .int k n=>EW op k n λ v=>K v M
  | .bool b=>match op with
   | .not=>fB (!b) λ c=>K (.bool c) M
   | _=>False
  | _=>False
 | .conv k x=>match ex tm x with
  | .int _ n=>BV k n λ v=>K (.int k v) M
  | _=>False
 | .box s x=>fC (ex tm x) λ cs=>JV s tm M λ k=>K (.ptr k 0 0 0) ((k,s,.bx cs)::M)
 | .alloc s zero=>bif GH zero then (JV s tm M λ k=>K (.ptr k 0 0 0) ((k,s,.bx zero)::M)) else False
 | .build zero parts=>bif GH zero then nX tm parts zero λ cs=>K (.agg cs) M else False
 | .e5 s z parts=>bif HU s then lI tm z parts λ es=>dJ es λ n=>JV s tm M λ k=>bif cM es then K (.row k 0 z 0 n) ((k,s,.rw z es)::M) else K (.row k 0 z 0 n) ((k,s,.bs z es)::M) else False
 | .a5 x off=>match ex tm x with
  | .ptr key t i j=>K (.ptr key t i (j+off)) M
  | .u7 cs=>fL (cs.drop off) λ cs=>K (.u7 cs) M
  | _=>False
 | .oi x off n agg=>match ex tm x with
  | .agg cs=>match part cs off n with
   | some ds=>fL ds λ ds=>qk agg ds λ v=>K v M
   | none=>False
  | _=>False
 | .a9 arr z x i=>match ex tm i with
  | .int _ n=>match arr,ex tm x with
   | some len,.ptr key t i' j=>BT (0<=n/\n<(len:Int)) (K (.ptr key t i' (j+n.toNat*z)) M)
   | some len,.u7 cs=>BT (0<=n/\n<(len:Int)) (fL (cs.drop (n.toNat*z)) λ cs=>K (.u7 cs) M)
   | none,.row key t z' off len=>bif Nat.beq z' z then BT (0<=n/\n<(len:Int)) (K (.ptr key t (off+n.toNat) 0) M) else False
   | none,.sl _ es=>BJ es n z λ cs=>K (.u7 cs) M
   | _,_=>False
  | _=>False
 | .ld agg n x=>match ex tm x with
  | .ptr key t i j=>match c9 M key with
   | some (s,c)=>match t with
    | 0=>bif XN s c5 then (match c with
     | .bx cs=>bif Nat.beq i 0 then (match part cs j n with
      | some ds=>fL ds λ ds=>qk agg ds λ v=>K v M
      | none=>False) else False
     | .rw _ es=>CS es i j n λ ds=>fL ds λ ds=>bif GH ds then qk agg ds λ v=>K v M else False
     | .bs _ es=>(match es[i]? with
      | some cs=>(match part cs j n with
       | some ds=>fL ds λ ds=>qk agg ds λ v=>K v M
       | none=>False)
      | none=>False)
     | .mx rows=>bif Nat.beq j 0 then bif Nat.beq n 1 then HE rows i λ r=>match r with
      | some (z,es)=>qk agg [.row key (i+1) z 0 es.length] λ v=>K v M
      | none=>qk agg [.nil] λ v=>K v M else False else False
     | .hx _ _ _=>False
     | .vw _ _=>False) else False
    | i'+1=>match c,c5 with
     | .mx rows,[]=>FL rows i' λ_ es=>CS es i j n λ ds=>fL ds λ ds=>bif GH ds then qk agg ds λ v=>K v M else False
     | .mx rows,b::r=>bif YW (b::r) then FL rows i' λ_ es=>CS es i j n λ ds=>fL ds λ ds=>bif GH ds then qk agg ds λ v=>K v M else False else False
     | _,_=>False
   | none=>False
  | .u7 cs=>match part cs 0 n with
   | some ds=>fL ds λ ds=>bif GH ds then qk agg ds λ v=>K v M else False
   | none=>False
  | _=>False
 | .st n x v=>rD tm M K n x v
 | .nr s n x v=>match ex tm x with
  | .ptr key 0 _ _=>(match c9 M key with
   | some (s',_)=>bif Nat.beq s' s then rD tm M K n x v else False
   | none=>False)
  | _=>False
 | .m6 f xs=>Z4 tm xs λ vs=>bif vs.all dq then AP L f (vs.map wk) λ r=>DG r λ r=>K r M else False
 | .mk s z bytes zero l c=>match ex tm l,ex tm c with
  | .int _ a,.int _ b=>bif Nat.beq zero.length z then bif GH zero then match zero with
   | [.nil]=>bif HU s then HN a b bytes λ rows n=>JV s tm M λ k=>K (.row k 0 z 0 n) ((k,s,.mx rows)::M) else False
   | zero=>bif HU s then (EU a b bytes zero λ es n=>JV s tm M λ k=>K (.row k 0 z 0 n) ((k,s,.rw z es)::M)) else False else False else False
  | _,_=>False
 | .ig z x lo hi=>iM tm lo λ lo=>iM tm hi λ hi=>match ex tm x with
  | .sl l es=>FG z es lo hi λ es=>K (.sl l es) M
  | .row key t z' off len=>bif Nat.beq z' z then DB lo hi len λ a h=>K (.row key t z (off+a) (h-a)) M else False
  | .nil=>(match lo,hi with
   | none,none=>K .nil M
   | some a,none=>BT (a=0) (K .nil M)
   | none,some h=>BT (h=0) (K .nil M)
   | some a,some h=>BT (a=0/\h=0) (K .nil M))
  | _=>False
 | .ext x i=>match ex tm x with
  | .g8 vs=>f2 (yn vs i) λ v=>K v M
  | _=>False
 | .len x=>match ex tm x with
  | .sl _ es=>BM es λ n=>K (.int .i64 (n:Int)) M
  | .nil=>K (.int .i64 0) M
  | .row _ _ _ _ n=>K (.int .i64 (n:Int)) M
  | _=>False
 | .mm mx xs=>match XC tm xs with
  | .int k a::r=>YT mx k (λ v=>K v M) a r
  | _=>False
 | .app s z bytes x y=>bif Nat.ble 800000 s then kY tm M s z bytes x y K else (
  match X6 M (ex tm y) with
  | some (ky,some (k2,z2,n2))=>match ex tm x with
   | .row key 0 z' off len=>bif Nat.beq off 0 then bif Nat.beq z' 1 then bif Nat.beq z 1 then bif Nat.beq key k2 then False else bif Nat.beq key ky then False else bif Nat.beq k2 ky then False else (match c9 M k2 with
    | some (_,.rw z3 es)=>bif Nat.beq z2 z3 then (match c9 M key with
     | some (s',.mx rows)=>fM (o7 key (o7 k2 (o7 ky M))) λ M'=>BT (n2=es.length) (G2 rows len (some (z2,es)) bytes λ fp n=>JV s tm M λ k=>K (.row k 0 z 0 n) ((k,s',.mx fp)::M'))
     | _=>False) else False
    | _=>False) else False else False else False
   | .nil=>bif HU s then bif Nat.beq z 1 then (match c9 M k2 with
    | some (_,.rw z3 es)=>bif Nat.beq z2 z3 then fM (o7 k2 M) λ M'=>BT (n2=es.length/\bytes<=140737488355328) (JV s tm M λ k=>K (.row k 0 z 0 1) ((k,s,.mx [some (z2,es)])::M')) else False
    | _=>False) else False else False
   | _=>False
  | some (ky,none)=>match ex tm x with
   | .row key 0 z' off len=>bif Nat.beq off 0 then bif Nat.beq z' 1 then bif Nat.beq z 1 then bif Nat.beq key ky then False else (match c9 M key with
     | some (s',.mx rows)=>fM (o7 key M) λ M'=>G2 rows len none bytes λ fp n=>JV s tm M λ k=>K (.row k 0 z 0 n) ((k,s',.mx fp)::M')
     | _=>False) else False else False else False
   | .nil=>bif HU s then bif Nat.beq z 1 then BT (bytes<=140737488355328) (JV s tm M λ k=>K (.row k 0 z 0 1) ((k,s,.mx [none])::M)) else False else False
   | _=>False
  | none=>gP M (ex tm y) λ ys=>match ex tm x with
   | .row key 0 z' off len=>bif Nat.beq off 0 then bif Nat.beq z' z then (match c9 M key with
    | some (s',.rw ij es)=>bif Nat.beq ij z then fM (o7 key M) λ M'=>(DK es len ys z bytes λ es' n=>JV s tm M λ k=>K (.row k 0 z 0 n) ((k,s',.rw z es')::M')) else False
    | _=>False) else False else False
   | .row key (i+1) z' off len=>bif Nat.beq off 0 then bif Nat.beq z' z then (match c9 M key with
    | some (sk,.mx rows)=>fM (o7 key M) λ M'=>FL rows i λ ij es=>bif Nat.beq ij z then (DK es len ys z bytes λ es' n => ∀ s' v,JV s tm M λ k=>K (.row k 0 z 0 n) ((k,s',.rw z es')::(key,sk,.hx i v (rows.set i none))::M')) else False
    | _=>False) else False else False
   | .nil=>bif HU s then EE ys z bytes λ es n=>JV s tm M λ k=>K (.row k 0 z 0 n) ((k,s,.rw z es)::M) else False
   | _=>False)
 | .call f xs=>eE tm M c5 xs λ vs=>AP L f vs λ r=>K r M
 | .g7 f xs=>Z4 tm xs λ vs=>CG L f vs tm M K
 | .o8 s f xs=>bif HU s then qR tm M c5 xs λ vs=>FF L f vs λ z es n=>JV s tm M λ k=>K (.row k 0 z 0 n) ((k,s,.rw z es)::M) else False
 | .rp ne x=>match ex tm x with
  | .nil=>fB (xor true ne) λ c=>K (.bool c) M
  | .da (.bool b)=>fB (xor b ne) λ c=>K (.bool c) M
  | .sl _ es=>BT (es≠[]) (fB (xor false ne) λ c=>K (.bool c) M)
  | .row _ _ _ _ n=>BT (0<n) (fB (xor false ne) λ c=>K (.bool c) M)
  | _=>False
 | .bad=>False
 | .cw s f xs=>Z4 tm xs λ vs=>match vs with
  | .ptr key 0 0 0::rest=>bif iC rest then Yo L s f key rest M K else False
  | _=>False
 | .gv tb x=>match ex tm x with
  | .int _ n=>X5 tb n λ v=>K (.int .u8 v) M
  | _=>False
 | .pe p f xs=>pM tm xs λ cs=>K (.fn (p&&cs.isEmpty) f (L.num f) cs) M
 | .o3 x xs=>match ex tm x with
  | .fn true f g []=>BT (g=L.num f) (eE tm M [] xs λ vs=>AP L f vs λ r=>K r M)
  | .fn true f g (c::cs)=>BT (g=L.num f) (WQ true M [] (.agg (c::cs)) λ v=>eE tm M [] xs λ vs=>AP L f (v::vs) λ r=>K r M)
  | .fn false f g cs=>bif dQ cs then BT (g=L.num f) (Z4 tm xs λ vs=>fL (vs++cs) λ vs=>CG L f vs tm M K) else False
  | _=>False
def Dk (key:Nat):Tm->Tm
 | []=>[]
 | (j,v)::r=>bif W7 key v then (j,.any)::Dk key r else (j,v)::Dk key r
def xk (v:AV) (tm:Tm) (K:Tm->Prop):Prop:=match v with
 | .row key (_+1) _ _ _=>fT (Dk key tm) K
 | _=>K tm
noncomputable def XI (L:Lib) (o:AI) (ih:(Tm->Mem->Prop)->Tm->Mem->Prop) (K:Tm->Mem->Prop) (tm:Tm) (M:Mem):Prop:=match o with
 | ⟨some d,.app s z b x y,none,c5⟩=>XE L tm M c5 (λ v M=>xk (ex tm x) tm λ tm=>ih K ((d,v)::tm) M) (.app s z b x y)
 | ⟨some d,op,none,c5⟩=>XE L tm M c5 (λ v M=>ih K ((d,v)::tm) M) op
 | ⟨none,op,none,c5⟩=>XE L tm M c5 (λ_ M=>ih K tm M) op
 | ⟨dst,op,some (g,w),c5⟩=>match tg tm g with
  | .bool b=>fB (b == w) λ c=>match c,dst with
   | true,some d=>XE L tm M c5 (λ v M=>ih K ((d,v)::tm) M) op
   | true,none=>XE L tm M c5 (λ_ M=>ih K tm M) op
   | false,some d=>ih K ((d,.g8 [])::tm) M
   | false,none=>ih K tm M
  | .g8 []=>match dst with
   | some d=>ih K ((d,.g8 [])::tm) M
   | none=>ih K tm M
  | _=>False
noncomputable def XO (L:Lib) (l:List AI):(Tm->Mem->Prop)->Tm->Mem->Prop :=
 List.rec (motive:=λ_=>(Tm->Mem->Prop)->Tm->Mem->Prop) (λ K tm M=>K tm M) (λ o _ ih K tm M=>XI L o ih K tm M) l
noncomputable def XS (L:Lib) (Q:Tm->Mem->Prop) (ih:List It->Tm->Mem->Prop) (k:List It) (tm:Tm) (M:Mem):Prop:=match k with
 | []=>Q tm M
 | it::k=>match it with
  | .e7 _=>ih k tm M
  | .ns ts ss=>fN (mask 0 ts) λ m=>fT (wu m tm) λ tm=>match ss with
   | []=>ih k tm M
   | _::_=>False
  | .lp c=>AH L (.lp c::k) tm M Q
  | .code c=>match c with
   | .skip=>ih k tm M
   | .ops l _=>XO L l (λ tm M=>ih k tm M) tm M
   | .dr c ts ss=>ih (.code c :: .ns ts ss::k) tm M
   | .scope c=>ih (.code c::k) tm M
   | .seq a b=>ih (.code a :: .code b::k) tm M
   | .cond x a b=>match ex tm x with
    | .bool b'=>fB b' λ c=>match c with
     | true=>ih (.code a::k) tm M
     | false=>ih (.code b::k) tm M
    | _=>False
   | .block id c=>ih (.code c :: .e7 id::k) tm M
   | .loop c=>AH L (.lp c::k) tm M Q
   | .exit id=>match IQ id k with
    | some k'=>ih k' tm M
    | none=>False
   | .ret=>Q tm M
noncomputable def XK (L:Lib) (Q:Tm->Mem->Prop) (n:Nat):List It->Tm->Mem->Prop :=
 Nat.rec (motive:=λ_=>List It->Tm->Mem->Prop) (λ k tm M=>AH L k tm M Q) (λ_ ih k tm M=>XS L Q ih k tm M) n
def dZ (tm:Tm) (M:Mem) (r:PM) (K:AV->Prop):Prop:=match r with
 | .tmp t=>f2 (tg tm t) K
 | .cell t agg n=>match tg tm t with
  | .ptr key 0 i j=>match c9 M key with
   | some (_,.bx cs)=>bif Nat.beq i 0 then (match part cs j n with
    | some ds=>fL ds λ ds=>qk agg ds K
    | none=>False) else False
   | _=>False
  | _=>False
noncomputable def iS (tm:Tm) (M:Mem) (l:List PM):(List AV->Prop)->Prop :=
 List.rec (motive:=λ_=>(List AV->Prop)->Prop) (λ K=>K []) (λ x _ ih K=>dZ tm M x λ v=>ih λ vs=>K (v::vs)) l
noncomputable def qO (q:Bool) (M:Mem) (l:List AV):(List AV->Prop)->Prop :=
 List.rec (motive:=λ_=>(List AV->Prop)->Prop) (λ K=>K []) (λ x _ ih K=>WQ q M [] x λ v=>ih λ vs=>K (v::vs)) l
def Uf (vs:List AV) (K:AV->Prop):Prop:=match vs with
 | [v]=>K v
 | vs=>K (.g8 vs)
def BF (a r:AV):Prop:=a=r/\B4 r
noncomputable def W4 (fn:AFn) (r:AV) (tm:Tm) (M:Mem):Prop:=iS tm M fn.res λ vs=>qO false M vs λ vs=>Uf vs λ v=>BF v r
end Go.e6
