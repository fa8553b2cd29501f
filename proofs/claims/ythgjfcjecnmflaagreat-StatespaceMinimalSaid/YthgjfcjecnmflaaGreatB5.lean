/-
  Functions: what the abstract machine says of a call, the model does.
-/
import Derived.Test.YthgjfcjecnmflaaGreatB4
import Derived.Test.YthgjfcjecnmflaaGreatB1
import Derived.IntWalk
set_option linter.unusedSimpArgs false
set_option linter.unusedVariables false
set_option linter.unnecessarySimpa false
namespace Go.e8
open Go.RowKit
section
variable {P:Program} {num:Nat->Nat} {L:Lib}
def ProgOK (P : Program) (num : Nat → Nat) (L : Lib) : Prop := (∀ f fa, L f = some fa → ∃ fn, P.funcs[num f]? = some fn ∧ okFn P num fn fa = true ∧ (fn.name == "runtime.NumGoroutine") = false) ∧ L.num = num
theorem tX : ∀ (args:List AV) (k i:Nat),g7 (CB k args) i=if k<=i then (match args[i-k]? with|some v=>v|none => .any) else .any
 | [],k,i=>by simp [CB,g7]
 | v::r,k,i=>by
  simp only[CB,g7];by_cases h:i=k
  ·subst h;simp
  ·rw[if_neg h,tX r (k+1) i]
   by_cases h2:k<=i
   ·rw[if_pos h2,if_pos (by omega)]
    have:i-k=(i-(k+1))+1:=by omega
    rw[this];simp
   ·rw[if_neg h2,if_neg (by omega)]
section
variable {B:Nat} {S:Nat->Prop} {w0:World} {m0:M} {N:Nat}
def cT (tmps:Array Value):ResultVar->Sem Value
 | .tmp t=>pure (tmps.getD t undef)
 | .cell x t=>do loadVar t (<-asAddr (tmps.getD x undef))
theorem Ud {m:M} {x v:AV} {u:Value} (h:HZ x=some v) (w5:CV B S m x u):CA B S m v u:=by
 cases w5 with
 | any=>simp [HZ]at h
 | l6=>simp [HZ]at h
 | ca hc =>
  have:x=v:=by
   cases hc with
   | one hc=>cases hc with
    | rd hr=>cases hr<;>simpa [HZ] using h
    | _=>simpa [HZ] using h
   | fn=>simpa [HZ] using h
   | tk=>simpa [HZ] using h
   | agg=>simpa [HZ] using h
  subst this;exact hc
theorem kR {m:M} {a:Act} {st:St} (hf:FA B S w0 m0 N (g7 st.tm) m a) (m6:m.own=st.own) : ∀ {rv:List ResultVar} {ra:List IO} {vs:List AV},LN P rv ra=true->ra.mapM (EV st)=some vs ->
  ∃ us:List Value,(rv.mapM (cT a.tmps)).run P m.w = .ok us m.w/\vs.length=us.length /\ ∀ (j:Nat) (c:AV) (v:Value),vs[j]? = some c->us[j]? = some v->CA B S m c v
 | [],[],vs,_,h=>by
  simp at h;subst h;exact ⟨[],by simp,rfl,λ j c v hc=>by simp at hc⟩
 | .tmp t::r,.tmp t'::l,vs,m4,h=>by
  simp only[LN,Bool.and_eq_true,beq_iff_eq]at m4;obtain ⟨rfl,m4⟩:=m4;simp only[List.mapM_cons,Option.bind_eq_bind,Option.pure_def]at h;cases hv:EV st (.tmp t) with
  | none=>simp [hv]at h
  | some v =>
   cases hr:l.mapM (EV st) with
   | none=>simp [hv,hr]at h
   | some vr =>
    simp [hv,hr]at h;subst h;obtain ⟨us,h1,h2,h3⟩:=kR hf m6 m4 hr;have w5:=hf.tm t;have oz:CA B S m v (a.tmps.getD t undef):=Ud hv w5;refine ⟨a.tmps.getD t undef::us,?_,by simp [h2],λ j c u hc hu => ?_⟩
    ·simp only[List.mapM_cons,Sem.run_bind,cT,Sem.run_pure,Result.andThen_ok,h1]
    ·cases j with
     | zero =>
      obtain rfl:v=c:=by simpa using hc
      obtain rfl:a.tmps.getD t undef=u:=Option.some.inj hu;exact oz
     | succ j=>exact h3 j c u (by simpa using hc) (by simpa using hu)
 | .cell x t::r,.cell x' agg n::l,vs,m4,h=>by
  simp only[LN,Bool.and_eq_true,beq_iff_eq]at m4;obtain ⟨⟨⟨rfl,iw⟩,hn⟩,m4⟩:=m4;simp only[List.mapM_cons,Option.bind_eq_bind,Option.pure_def]at h;cases hv:EV st (.cell x agg n) with
  | none=>simp [hv]at h
  | some v =>
   cases hr:l.mapM (EV st) with
   | none=>simp [hv,hr]at h
   | some vr =>
    simp [hv,hr]at h;subst h;obtain ⟨us,h1,h2,h3⟩:=kR hf m6 m4 hr;have w5:=hf.tm x;simp only[EV]at hv;split at hv
    ·rename_i s u i j hx
     rw[hx]at w5;split at hv
     ·rename_i cs gq
      rw[<-m6]at gq;obtain ⟨ad,cp,ht,hb⟩:=YB w5;obtain ⟨b,g,arr,e,o7,hg,cf,ma,q6,ia⟩:=wH hf.mem gq;obtain ⟨Ano,lq⟩:=cK hv q6;have hld:=kU (P:=P) t agg n (eJ (by simpa using iw)) (by
       cases agg
       ·simpa using hn
       ·exact O3 (by simpa using hn)) ad cf ma m.w (λ q u' hq=>by
       have m9:q<cf.length:=(zS hq).1;obtain ⟨Ay,kn⟩:=hg (by omega);obtain ⟨g',fh,rfl⟩:=hb b o7;obtain rfl:g=g':=by rw[Ay]at fh;simpa using fh
       rw[GQ,aK kn];exact ia q u' hq)
      have Kg:(cT a.tmps (.cell x t)).run P m.w = .ok (if agg then .agg cf.toArray else cf.getD 0 undef) m.w:=by
       show (do loadVar t (<-asAddr (a.tmps.getD x undef)):Sem Value).run P m.w=_;rw[cp];simpa [asAddr,Instr.loadAt,Instr.sureAddr] using hld
      have oz:CA B S m v (if agg then .agg cf.toArray else cf.getD 0 undef):=by
       unfold J2 at hv;cases agg with
       | true =>
        simp only[if_true,Option.some.injEq]at hv;subst hv;exact .agg cs cf q6
       | false =>
        simp only[Bool.false_eq_true,if_false]at hv ⊢;split at hv
        ·rename_i c
         simp only[Option.some.injEq]at hv;subst hv;obtain ⟨u',lz,w4⟩:=V6 q6 (j:=0) (c:=c) rfl;simp only[List.getD,lz,Option.getD_some];exact .one w4
        ·cases hv
      refine ⟨(if agg then .agg cf.toArray else cf.getD 0 undef)::us,?_,by simp [h2],λ j' c u' hc hu => ?_⟩
      ·rw[List.mapM_cons,Sem.run_bind,Kg,Result.andThen_ok,Sem.run_bind,h1,Result.andThen_ok]
       rfl
      ·cases j' with
       | zero =>
        obtain rfl:v=c:=by simpa using hc
        obtain rfl:=Option.some.inj hu;exact oz
       | succ j'=>exact h3 j' c u' (by simpa using hc) (by simpa using hu)
     ·cases hv
    ·cases hv
 | [],_::_,_,m4,_=>by simp [LN]at m4
 | .tmp _::_,[],_,m4,_=>by simp [LN]at m4
 | .cell _ _::_,[],_,m4,_=>by simp [LN]at m4
 | .tmp _::_,.cell _ _ _::_,_,m4,_=>by simp [LN]at m4
 | .cell _ _::_,.tmp _::_,_,m4,_=>by simp [LN]at m4
end
theorem oE (hP:ProgOK P num L) {f:Nat} {fa:AFn} (hL:L f=some fa) (us:Array Value) (w:World):(callFunc (num f) us).run P w = .ok (.enter (num f) us) w:=by
 obtain ⟨fn,h1,h2,h3⟩:=hP.1 f fa hL;have hb:fn.body.isNone=false:=by
  simp only[okFn,Bool.and_eq_true]at h2;cases hbd:fn.body with
  | none=>rw[hbd]at h2;simp at h2
  | some c=>rfl
 unfold callFunc;simp only[Sem.run_bind,run_program,Result.andThen_ok,h1,h3,hb,Bool.false_eq_true,if_false,Sem.run_pure]
theorem tY (hP:ProgOK P num L) {n:Nat} (hC:GD P num (CH L n)) {f:Nat} {vs:List AV} {own:AH} {r:AV} {n9:AH} (h:C6 L (n+1) f vs own=some (r,n9)) (B:Nat) (S:Nat->Prop) (w0:World) (m:M) (us:List Value) (m6:m.own=own) (hm:BL B S w0 m) (hl:vs.length=us.length)
  (w5 : ∀ (j:Nat) (c:AV) (v:Value),vs[j]? = some c->us[j]? = some v->CV B S m c v) :
  Calls P (num f) us.toArray m.w λ e w' => ∃ u m',e = .returned u/\m'.w=w'/\m'.own=n9/\BL B S w0 m'/\C1 B S m m'/\CV B S m' r u:=by
 rw[YH]at h;cases hL:L f with
 | none=>simp [hL]at h
 | some fa =>
  simp only[hL]at h;split at h
  ·rename_i Fj
   split at h
   ·rename_i st u4
    split at h
    ·rename_i Qb lu
     simp only[Option.some.injEq,Prod.mk.injEq]at h;obtain ⟨rfl,rfl⟩:=h;obtain ⟨fn,h1,h2,h3⟩:=hP.1 f fa hL;simp only[okFn,Bool.and_eq_true,beq_iff_eq,decide_eq_true_eq]at h2;obtain ⟨⟨⟨h4,h5⟩,h6⟩,h7⟩:=h2;split at h7
     ·rename_i c hc
      intro cs;have Aw:Frame.enter P (num f) us.toArray .normal=({ (default:Frame) with fn:=num f,kind := .normal }:Frame).at { tmps:=us.toArray++Array.replicate (fn.ntmps-us.toArray.size) undef,defers:=[] } [.code c]:=by
       simp [Frame.enter,Frame.at,h1,hc]
      have w6:us.length=fa.bm:=by rw[<-hl];exact Fj
      have Jv:FA B S w0 m fn.ntmps (g7 (CB 0 vs)) m { tmps:=us.toArray++Array.replicate (fn.ntmps-us.toArray.size) undef,defers:=[] }:=by
       refine ⟨hm,C1.refl m,λ i => ?_,by simp;omega,rfl⟩;rw[tX];simp only[Nat.zero_le,if_true,Nat.sub_zero];cases Ox:vs[i]? with
       | none=>exact .any _
       | some v =>
        have hi:i<us.length:=by rw[<-hl];exact (zS Ox).1
        have o7:(us.toArray++Array.replicate (fn.ntmps-us.toArray.size) undef).getD i undef=us[i]:=by
         rw[Array.getD_eq_getD_getElem?,Array.getElem?_append_left (by simpa using hi)];simp [hi]
        simp only[o7];exact w5 i v us[i] Ox (zE hi)
      obtain ⟨a',m',o6,Bj,ko,nf⟩:=AhH (m0:=m) hC { (default:Frame) with fn:=num f,kind := .normal } cs n [.code fa.body] ⟨CB 0 vs,own⟩ st u4 [.code c] (.code h7 .nil) m _ m6 Jv;obtain ⟨wo,hu1,Cx,Ov⟩:=kR (P:=P) nf ko h6 lu;have xx:(results fn a'.tmps).run P m'.w = .ok (if h:wo.length=1 then wo[0] else .tuple wo.toArray) m'.w:=by
       have hr:results fn a'.tmps=(do let vs <-fn.results.mapM (cT a'.tmps);pure (if h:vs.size=1 then vs[0] else .tuple vs)):=rfl;rw[hr,Sem.run_bind,Array.mapM_eq_mapM_toList];simp [hu1]
      refine ⟨.returned (if h:wo.length=1 then wo[0] else .tuple wo.toArray),m'.w,_,⟨_,m',rfl,rfl,ko,nf.mem,nf.ext,?_⟩,by rw[Aw];exact Bj,rfl,rfl,nf.defers,rfl,fn,h1,xx⟩;unfold HB;split
      ·rename_i v
       have wv:wo.length=1:=by rw[<-Cx];rfl
       rw[dif_pos wv];exact .ca (Ov 0 v wo[0] rfl (zE (by omega)))
      ·rename_i m8
       have wv : ¬ wo.length=1:=λ e=>by
        rw[<-Cx]at e;cases Qb with
        | nil=>simp at e
        | cons q qs=>cases qs with
         | nil=>exact m8 q rfl
         | cons=>simp at e
       rw[dif_neg wv];exact .l6 Qb wo Cx Ov
     ·cases h7
    ·cases h
   ·cases h
  ·cases h
theorem Agf (S:Nat->Prop) (w:World):BL w.heap.size S w ⟨λ_ _=>none,AH.emp,w⟩ :=
 ⟨Below.refl _ _,Nat.le_refl _,λ_ _ _=>rfl,λ s t b h=>by simp [AH.get,AH.emp]at h,λ s t s' t' b b' g h=>by simp [AH.get,AH.emp]at h⟩
theorem qZ {n f:Nat} {vs:List AV} {own:AH} {r:AV × AH} (h:C6 L n f vs own=some r) : ∃ fa,L f=some fa:=by
 cases n with
 | zero=>simp [C6]at h
 | succ n =>
  rw[YH]at h;cases hL:L f with
  | none=>simp [hL]at h
  | some fa=>exact ⟨fa,rfl⟩
theorem kL {n f:Nat} {vs:List AV} {r:AV} (h:HU (λ vs=>C6 L n f vs AH.emp) vs=some r) : ∃ r0 o,C6 L n f vs AH.emp=some (r0,o)/\Q6 o false r0=some r/\A1 r:=by
 unfold HU at h;cases he:C6 L n f vs AH.emp with
 | none=>simp [he]at h
 | some x =>
  obtain ⟨r0,o⟩:=x;simp only[he]at h;split at h
  ·rename_i r' hr
   split at h
   ·rename_i hc
    simp only[Option.some.injEq]at h;subst h;exact ⟨r0,o,rfl,hr,hc⟩
   ·cases h
  ·cases h
theorem gS {n f:Nat} {vs:List AV} {r:AV} (h:GG L n f vs=some r) : ∃ cf,∃ x,C6 L n f cf AH.emp=some x:=by
 unfold GG J3 at h;split at h
 ·split at h
  ·rename_i r1 r2 h1 h2
   obtain ⟨r0,o,h3,_⟩:=kL h1;exact ⟨_,_,h3⟩
  ·cases h
 ·obtain ⟨r0,o,h3,_⟩:=kL h
  exact ⟨_,_,h3⟩
theorem kM (hP:ProgOK P num L) {n:Nat} (ih:GD P num (CH L n)) {f:Nat} {vs:List AV} {r:AV} (h:HU (λ vs=>C6 L (n+1) f vs AH.emp) vs=some r) (S:Nat->Prop) (w:World) (us:List Value) (hl:vs.length=us.length)
  (oz : ∀ (j:Nat) (c:AV) (v:Value),vs[j]? = some c->us[j]? = some v->CA w.heap.size S ⟨λ_ _=>none,AH.emp,w⟩ c v) :
  Calls P (num f) us.toArray w λ e w' => ∃ u,e = .returned u/\Below w.heap.size w w'/\CV w.heap.size S ⟨λ_ _=>none,AH.emp,w'⟩ r u/\A1 r:=by
 obtain ⟨r0,o,h1,h2,h3⟩:=kL (L:=L) h;refine Calls.mono (tY hP ih h1 w.heap.size S w ⟨λ_ _=>none,AH.emp,w⟩ us rfl (Agf S w) hl λ j c v hc hv => .ca (oz j c v hc hv)) λ e w' ⟨u,m',he,hw,m6,mj,_,w5⟩ => ?_
 subst hw;refine ⟨u,he,mj.below,?_,h3⟩;refine DV.cv (m:=⟨λ_ _=>none,AH.emp,m'.w⟩) (Aia mj false (safe w.heap.size S ⟨λ_ _=>none,AH.emp,m'.w⟩) (λ l b hb hs => ?_) (λ s t g jx hg => ?_) (by rw[m6];exact h2) w5)
 ·rcases hs with h|⟨h,_⟩|h
  ·exact .inl h
  ·exact .inr (.inl ⟨h,λ s t jx=>by simp [AH.get,AH.emp]at jx⟩)
  ·exact .inr (.inr h)
 ·exact .inr (.inl ⟨(mj.ge jx hg).1,λ s t jx=>by simp [AH.get,AH.emp]at jx⟩)
theorem Sp (hP:ProgOK P num L) : ∀ n,GD P num (CH L n):=by
 intro n;induction n with
 | zero =>
  exact ⟨λ f vs r h=>by obtain ⟨cf,x,h1⟩:=gS (L:=L) (n:=0) (f:=f) (vs:=vs) (r:=r) h;simp [C6]at h1,λ f vs own r h=>by change C6 L 0 f vs own=some r at h;simp [C6]at h,
   λ f vs r h=>by obtain ⟨cf,x,h1⟩:=gS (L:=L) (n:=0) (f:=f) (vs:=vs) (r:=r) h;simp [C6]at h1,λ f vs own r n9 h=>by change C6 L 0 f vs own=_ at h;simp [C6]at h,hP.2⟩
 | succ n ih =>
  refine ⟨λ f vs r h us w => ?_,λ f vs own r h us w => ?_,λ f vs r h S w us hl oz => ?_,λ f vs own r n9 h B S w0 m us m6 hm hl w5=>tY hP ih h B S w0 m us m6 hm hl w5,hP.2⟩
  ·obtain ⟨cf,x,h1⟩:=gS (L:=L) h
   obtain ⟨fa,hL⟩:=qZ h1;exact oE hP hL us w
  ·obtain ⟨fa,hL⟩:=qZ (L:=L) h
   exact oE hP hL us w
  ·have h:J3 (L.ot f) (λ vs=>C6 L (n+1) f vs AH.emp) vs=some r:=h
   unfold J3 at h;split at h
   ·rename_i q cf _ _
    split at h
    ·rename_i r1 r2 h1 h2
     split at h
     ·rename_i e
      subst e;obtain rfl:=Option.some.inj h;cases us with
      | nil=>simp at hl
      | cons u us =>
       have h0:=oz 0 _ u rfl rfl;have hu : ∃ a cap,u = .slice a 0 cap:=by
        cases h0 with
        | one h0=>cases h0 with
         | rd h0=>cases h0 with
          | jl l a cap=>exact ⟨a,cap,rfl⟩
          | sl l es b o b9 cap u m8=>exact absurd rfl m8
       obtain ⟨a,cap,rfl⟩:=hu;have key : ∀ b,a.isNone=b -> ∀ (j:Nat) (c:AV) (v:Value),(AV.da (.bool b)::cf)[j]? = some c->(Value.slice a 0 cap::us)[j]? = some v->CA w.heap.size S ⟨λ_ _=>none,AH.emp,w⟩ c v:=λ b hb j c v hc hv=>by
        cases j with
        | zero =>
         obtain rfl:=Option.some.inj hc;obtain rfl:=Option.some.inj hv;exact .one (.rd (.emp b a cap hb))
        | succ j=>exact oz (j+1) c v hc hv
       cases hb:a.isNone with
       | true=>exact kM hP ih h1 S w _ (by simpa using hl) (key true hb)
       | false=>exact kM hP ih h2 S w _ (by simpa using hl) (key false hb)
     ·cases h
    ·cases h
   ·exact kM hP ih h S w us hl oz
end
end Go.e8
namespace Go.e8
abbrev OkF (P : Program) (num : Nat → Nat) (p : Nat × AFn) : Prop := ∃ fn, P.funcs[num p.1]? = some fn ∧ okFn P num fn p.2 = true ∧ (fn.name == "runtime.NumGoroutine") = false
theorem Ag2 {P:Program} {num:Nat->Nat} (l:List (Nat × AFn)) (h : ∀ p∈l,OkF P num p):ProgOK P num ⟨λ f=>l.lookup f,num⟩:=by
 refine ⟨?_,rfl⟩;intro f fa hf;have hm:(f,fa)∈l:=by
  clear h;change l.lookup f=some fa at hf;induction l with
  | nil=>simp at hf
  | cons x r ih =>
   obtain ⟨k,v⟩:=x;rw[List.lookup_cons]at hf;cases hk:(f == k) with
   | true =>
    rw[hk]at hf;have:f=k:=by simpa using hk
    subst this;simp at hf;simp [hf]
   | false =>
    rw[hk]at hf;exact List.mem_cons_of_mem _ (ih hf)
 exact h (f,fa) hm
end Go.e8
namespace Go.e8
section
variable {L:Lib}
def Cl.le (C C':Cl):Prop:=(∀ f vs r,C.pure f vs=some r->C'.pure f vs=some r)/\(∀ f vs o r,C.ic f vs o=some r->C'.ic f vs o=some r)/\C.num=C'.num
theorem nU {x y:Option (AV × AH)} {r:Nat × List (List AV)} (h : ∀ q,x=some q->y=some q) (hr:OE x=some r):OE y=some r:=by
 cases x with
 | none=>simp [OE]at hr
 | some q=>rw[h q rfl];exact hr
theorem Yf {C C':Cl} (h:C.le C') {c7:List Nat} {ρ:AR->AV} {own:AH} {op:DG} {E:B3} (he:g6 C c7 ρ own op=some E):g6 C' c7 ρ own op=some E:=by
 cases op with
 | call f xs =>
  simp only[g6]at he ⊢;split at he
  ·rename_i vs ia
   simp only[Option.map_eq_some_iff]at he ⊢;obtain ⟨r,hr,rfl⟩:=he;exact ⟨r,h.1 f vs r hr,rfl⟩
  ·cases he
 | e9 f xs =>
  simp only[g6,Option.map_eq_some_iff]at he ⊢;obtain ⟨r,hr,rfl⟩:=he;exact ⟨r,h.2.1 f _ own r hr,rfl⟩
 | qa p f xs=>simp only[g6]at he ⊢;rw[<-h.2.2];exact he
 | cq s f xs =>
  simp only[g6,Option.map_eq_some_iff]at he ⊢;obtain ⟨p,hp,rfl⟩:=he;exact ⟨p,aJ.2 λ o ho=>h.2.1 f _ o _ (aJ.1 hp o ho),rfl⟩
 | u9 s f xs =>
  simp only[g6]at he ⊢;split at he
  ·rename_i vs ia
   simp only[Option.map_eq_some_iff]at he ⊢;obtain ⟨r,hr,rfl⟩:=he;exact ⟨r,nU (h.2.1 f vs AH.emp) hr,rfl⟩
  ·cases he
 | o0 f xs =>
  simp only[g6]at he ⊢;split at he
  ·rename_i hq
   rw[if_pos hq];split at he
   ·rename_i r hr
    rw[h.1 _ _ r hr];exact he
   ·cases he
  ·cases he
 | n8 x xs =>
  simp only[g6]at he ⊢;rw[<-h.2.2];split at he
  ·split at he
   ·rename_i hg
    rw[if_pos hg];split at he
    ·split at he
     ·rename_i vs ia
      simp only[Option.map_eq_some_iff]at he ⊢;obtain ⟨r,hr,rfl⟩:=he;exact ⟨r,h.1 _ vs r hr,rfl⟩
     ·cases he
    ·simp only[Option.map_eq_some_iff]at he ⊢
     obtain ⟨r,hr,rfl⟩:=he;exact ⟨r,h.2.1 _ _ own r hr,rfl⟩
    ·split at he
     ·rename_i vs ia
      simp only[Option.map_eq_some_iff]at he ⊢;obtain ⟨r,hr,rfl⟩:=he;exact ⟨r,h.1 _ vs r hr,rfl⟩
     ·cases he
   ·cases he
  ·cases he
 | _=>exact he
theorem Aif {C C':Cl} (h:C.le C') {o:AI} {st l9:St} (he:CO C o st=some l9):CO C' o st=some l9:=by
 unfold CO at he ⊢;split at he
 ·simp only[Option.map_eq_some_iff]at he ⊢
  obtain ⟨E,h1,h2⟩:=he;exact ⟨E,Yf h h1,h2⟩
 ·exact he
 ·exact he
theorem O6 {C C':Cl} (h:C.le C') : ∀ {l:List AI} {st l9:St},CU C l st=some l9->CU C' l st=some l9
 | [],st,l9,he=>he
 | o::r,st,l9,he=>by
  simp only[CU]at he ⊢;cases hs:CO C o st with
  | none=>simp [hs]at he
  | some A4 =>
   rw[Aif h hs];simp only[hs]at he;exact O6 h he
theorem JA {C C':Cl} (h:C.le C') : ∀ {n n':Nat} {k:List It} {st l9:St},n<=n'->run C n k st=some l9->run C' n' k st=some l9:=by
 intro n;induction n with
 | zero=>intro n' k st l9 _ hr;simp [run]at hr
 | succ n ih =>
  intro n' k st l9 hn hr;obtain ⟨q,rfl⟩ : ∃ q,n'=q+1:=⟨n'-1,by omega⟩;have hq:n<=q:=by omega
  cases k with
  | nil=>exact hr
  | cons it k =>
   cases it with
   | e7 id=>simp only[run]at hr ⊢;exact ih hq hr
   | kf ts ss=>simp only[run]at hr ⊢;exact ih hq hr
   | lp c=>simp only[run]at hr ⊢;exact ih hq hr
   | code c =>
    cases c with
    | skip=>simp only[run]at hr ⊢;exact ih hq hr
    | ops l d =>
     simp only[run]at hr ⊢;cases hs:CU C l st with
     | none=>simp [hs]at hr
     | some A4 =>
      rw[O6 h hs];simp only[hs]at hr;exact ih hq hr
    | dr c ts ss=>simp only[run]at hr ⊢;exact ih hq hr
    | scope c=>simp only[run]at hr ⊢;exact ih hq hr
    | seq a b=>simp only[run]at hr ⊢;exact ih hq hr
    | cond x a b =>
     simp only[run]at hr ⊢;split at hr
     ·exact ih hq hr
     ·exact ih hq hr
     ·cases hr
    | block id c=>simp only[run]at hr ⊢;exact ih hq hr
    | loop c=>simp only[run]at hr ⊢;exact ih hq hr
    | exit id =>
     simp only[run]at hr ⊢;split at hr
     ·exact ih hq hr
     ·cases hr
    | ret=>exact hr
theorem Y7 {I I':List AV->Option (AV × AH)} (hI : ∀ vs r,I vs=some r->I' vs=some r) {vs:List AV} {r:AV} (h:HU I vs=some r):HU I' vs=some r:=by
 unfold HU at h ⊢;cases he:I vs with
 | none=>simp [he]at h
 | some x=>rw[hI vs _ he];simpa [he] using h
theorem Ag3 {b:Bool} {I I':List AV->Option (AV × AH)} (hI : ∀ vs r,I vs=some r->I' vs=some r) {vs:List AV} {r:AV} (h:J3 b I vs=some r):J3 b I' vs=some r:=by
 unfold J3 at h ⊢;split at h
 ·split at h
  ·rename_i r1 r2 h1 h2
   rw[Y7 hI h1,Y7 hI h2];exact h
  ·cases h
 ·exact Y7 hI h
theorem rP : ∀ (n:Nat),(CH L n).le (CH L (n+1)):=by
 have ic : ∀ n,(∀ f vs o r,C6 L n f vs o=some r->C6 L (n+1) f vs o=some r) -> ∀ f vs r,GG L n f vs=some r->GG L (n+1) f vs=some r:=by
  intro n hI f vs r h;exact Ag3 (λ vs r h=>hI f vs _ r h) h
 intro n;induction n with
 | zero =>
  have : ∀ f vs o r,C6 L 0 f vs o=some r->C6 L 1 f vs o=some r:=λ f vs o r h=>by simp [C6]at h
  exact ⟨ic 0 this,this,rfl⟩
 | succ n ih =>
  have : ∀ f vs o r,C6 L (n+1) f vs o=some r->C6 L (n+2) f vs o=some r:=λ f vs o r h=>by
   rw[YH]at h ⊢;cases hL:L f with
   | none=>simp [hL]at h
   | some fn =>
    simp only[hL]at h ⊢;split at h
    ·rename_i hp
     rw[if_pos hp];cases hr:run (CH L n) n [.code fn.body] ⟨CB 0 vs,o⟩ with
     | none=>simp [hr]at h
     | some st =>
      rw[JA ih (Nat.le_succ n) hr];simpa [hr] using h
    ·cases h
  exact ⟨ic (n+1) this,this,rfl⟩
theorem E0 {n n':Nat} (h:n<=n'):(CH L n).le (CH L n'):=by
 induction h with
 | refl=>exact ⟨λ_ _ _ h=>h,λ_ _ _ _ h=>h,rfl⟩
 | step _ ih=>exact ⟨λ f vs r h=>(rP _).1 f vs r (ih.1 f vs r h),λ f vs o r h=>(rP _).2.1 f vs o r (ih.2.1 f vs o r h),rfl⟩
def Ev (L:Lib) (f:Nat) (vs:List AV) (r:AV):Prop := ∃ n,GG L n f vs=some r
def FH (L:Lib) (f:Nat) (vs:List AV) (r:AV):Prop := ∃ n,HU (λ vs=>C6 L n f vs AH.emp) vs=some r
def FZ (L:Lib) (f:Nat) (vs:List AV) (o:AH) (r:AV) (o':AH):Prop := ∃ n,C6 L n f vs o=some (r,o')
def JL (L:Lib) (f:Nat) (vs:List AV) (z:Nat) (es:List (List AV)):Prop := ∃ n,OE (C6 L n f vs AH.emp)=some (z,es)
theorem Ev.Af {f:Nat} {vs:List AV} {r r':AV} (h:Ev L f vs r) (h':Ev L f vs r'):r=r':=by
 obtain ⟨n,hn⟩:=h;obtain ⟨n',qt⟩:=h';have h1:=(E0 (L:=L) (Nat.le_max_left n n')).1 f vs r hn;have h2:=(E0 (L:=L) (Nat.le_max_right n n')).1 f vs r' qt;rw[h1]at h2;exact Option.some.inj h2
theorem FZ.Af {f:Nat} {vs:List AV} {o:AH} {r r':AV} {o1 o2:AH} (h:FZ L f vs o r o1) (h':FZ L f vs o r' o2):r=r'/\o1=o2:=by
 obtain ⟨n,hn⟩:=h;obtain ⟨n',qt⟩:=h';have h1:=(E0 (L:=L) (Nat.le_max_left n n')).2.1 f vs o _ hn;have h2:=(E0 (L:=L) (Nat.le_max_right n n')).2.1 f vs o _ qt;rw[h1]at h2;simpa using h2
def AK (L:Lib) (k:List It) (st:St) (Q:St->Prop):Prop := ∃ n c l9,run (CH L c) n k st=some l9/\Q l9
def AO (L:Lib) (l:List AI) (k:List It) (st:St) (Q:St->Prop):Prop := ∃ n c A4 l9,CU (CH L c) l st=some A4/\run (CH L c) n k A4=some l9/\Q l9
variable {k:List It} {st:St} {Q:St->Prop}
theorem JJ {it:It} {k':List It} {A4:St} (h : ∀ (C:Cl) (n:Nat),run C (n+1) (it::k) st=run C n k' A4):AK L (it::k) st Q↔AK L k' A4 Q:=by
 constructor
 ·rintro ⟨n,c,l9,hr,hq⟩
  cases n with
  | zero=>simp [run]at hr
  | succ n=>exact ⟨n,c,l9,by rw[<-h];exact hr,hq⟩
 ·rintro ⟨n,c,l9,hr,hq⟩
  exact ⟨n+1,c,l9,by rw[h];exact hr,hq⟩
theorem Sh:AK L [] st Q↔Q st:=by
 constructor
 ·rintro ⟨n,c,l9,hr,hq⟩
  cases n with
  | zero=>simp [run]at hr
  | succ n=>simp only[run,Option.some.injEq]at hr;exact hr ▸ hq
 ·exact λ h=>⟨1,0,st,rfl,h⟩
theorem Rz {id:Nat}:AK L (.e7 id::k) st Q↔AK L k st Q:=JJ λ_ _=>rfl
theorem Sd {ts ss:List Nat}:AK L (.kf ts ss::k) st Q↔AK L k ⟨bg st.tm ts,st.own.drop ss⟩ Q:=JJ λ_ _=>rfl
theorem mR {c:A9}:AK L (.lp c::k) st Q↔AK L (.code c :: .lp c::k) st Q:=JJ λ_ _=>rfl
theorem Sn:AK L (.code .skip::k) st Q↔AK L k st Q:=JJ λ_ _=>rfl
theorem Sc {c:A9} {ts ss:List Nat}:AK L (.code (.dr c ts ss)::k) st Q↔AK L (.code c :: .kf ts ss::k) st Q:=JJ λ_ _=>rfl
theorem Sk {c:A9}:AK L (.code (.scope c)::k) st Q↔AK L (.code c::k) st Q:=JJ λ_ _=>rfl
theorem Sl {a b:A9}:AK L (.code (.seq a b)::k) st Q↔AK L (.code a :: .code b::k) st Q:=JJ λ_ _=>rfl
theorem Sa {id:Nat} {c:A9}:AK L (.code (.block id c)::k) st Q↔AK L (.code c :: .e7 id::k) st Q:=JJ λ_ _=>rfl
theorem Sf {c:A9}:AK L (.code (.loop c)::k) st Q↔AK L (.code c :: .lp c::k) st Q:=JJ λ_ _=>rfl
theorem Se {id:Nat} {k':List It} (h:DC id k=some k'):AK L (.code (.exit id)::k) st Q↔AK L k' st Q:=JJ λ C n=>by simp [run,h]
theorem Sj:AK L (.code .ret::k) st Q↔Q st:=by
 constructor
 ·rintro ⟨n,c,l9,hr,hq⟩
  cases n with
  | zero=>simp [run]at hr
  | succ n=>simp only[run,Option.some.injEq]at hr;exact hr ▸ hq
 ·exact λ h=>⟨1,0,st,rfl,h⟩
theorem Sb {x:AR} {a b:A9} {t:Bool} (h:st.ev x = .bool t):AK L (.code (.cond x a b)::k) st Q↔if t=true then AK L (.code a::k) st Q else AK L (.code b::k) st Q:=by
 cases t
 ·simpa using JJ (k' := .code b::k) (A4:=st) λ C n=>by simp [run,h]
 ·simpa using JJ (k' := .code a::k) (A4:=st) λ C n=>by simp [run,h]
theorem Si {l:List AI} {d:Bool}:AK L (.code (.ops l d)::k) st Q↔AO L l k st Q:=by
 constructor
 ·rintro ⟨n,c,l9,hr,hq⟩
  cases n with
  | zero=>simp [run]at hr
  | succ n =>
   simp only[run]at hr;split at hr
   ·rename_i A4 hs
    exact ⟨n,c,A4,l9,hs,hr,hq⟩
   ·cases hr
 ·rintro ⟨n,c,A4,l9,hs,hr,hq⟩
  exact ⟨n+1,c,l9,by simp [run,hs,hr],hq⟩
theorem Qx:AO L [] k st Q↔AK L k st Q:=by
 constructor
 ·rintro ⟨n,c,A4,l9,hs,hr,hq⟩
  simp only[CU,Option.some.injEq]at hs;exact ⟨n,c,l9,hs ▸ hr,hq⟩
 ·rintro ⟨n,c,l9,hr,hq⟩
  exact ⟨n,c,st,l9,rfl,hr,hq⟩
theorem Ra {o:AI} {l:List AI} {A4:St} (h : ∀ C,CO C o st=some A4):AO L (o::l) k st Q↔AO L l k A4 Q:=by
 constructor
 ·rintro ⟨n,c,BJ,l9,hs,hr,hq⟩
  simp only[CU,h]at hs;exact ⟨n,c,BJ,l9,hs,hr,hq⟩
 ·rintro ⟨n,c,BJ,l9,hs,hr,hq⟩
  exact ⟨n,c,BJ,l9,by simpa only[CU,h] using hs,hr,hq⟩
theorem Qy {d:Option Nat} {op:DG} {g:Option (Nat × Bool)} {c7:List Nat} {l:List AI} (h:E6 st g=some false):AO L (⟨d,op,g,c7⟩::l) k st Q↔AO L l k (st.dst d (.l6 [])) Q :=
 Ra λ C=>by simp [CO,h]
theorem V5 (c:Nat):(CH L c).num=L.num:=rfl
theorem Qz {d:Option Nat} {op:DG} {g:Option (Nat × Bool)} {c7:List Nat} {l:List AI} {E:B3} (h:E6 st g=some true) (he : ∀ c,g6 (CH L c) c7 st.ev st.own op=some E):AO L (⟨d,op,g,c7⟩::l) k st Q↔AO L l k (st.app d E) Q:=by
 have h : ∀ c,CO (CH L c) ⟨d,op,g,c7⟩ st=some (st.app d E):=λ c=>by simp [CO,h,he]
 constructor
 ·rintro ⟨n,c,BJ,l9,hs,hr,hq⟩
  simp only[CU,h]at hs;exact ⟨n,c,BJ,l9,hs,hr,hq⟩
 ·rintro ⟨n,c,BJ,l9,hs,hr,hq⟩
  exact ⟨n,c,BJ,l9,by simpa only[CU,h] using hs,hr,hq⟩
theorem So {d:Option Nat} {f:Nat} {xs:List AR} {g:Option (Nat × Bool)} {c7:List Nat} {l:List AI} {vs:List AV} {r:AV} (h:E6 st g=some true) (hv:(xs.map st.ev).mapM (CN (st.own.o3 c7) true)=some vs) (hr:Ev L f vs r) :
  AO L (⟨d,.call f xs,g,c7⟩::l) k st Q↔AO L l k (st.dst d r) Q:=by
 have m5 : ∀ c r',GG L c f vs=some r'->CO (CH L c) ⟨d,.call f xs,g,c7⟩ st=some (st.dst d r'):=λ c r' hc=>by
  have z9:(CH L c).pure f vs=some r':=hc;simp [CO,h,g6,hv,z9,St.app]
 constructor
 ·rintro ⟨n,c,BJ,l9,hs,gi,hq⟩
  simp only[CU]at hs;cases hI:CO (CH L c) ⟨d,.call f xs,g,c7⟩ st with
  | none=>simp [hI]at hs
  | some A4 =>
   simp only[hI]at hs;cases hp:GG L c f vs with
   | none =>
    have z9:(CH L c).pure f vs=none:=hp;simp [CO,h,g6,hv,z9]at hI
   | some r' =>
    obtain rfl:r'=r:=Ev.Af ⟨c,hp⟩ hr;rw[m5 c r' hp]at hI;obtain rfl:=Option.some.inj hI;exact ⟨n,c,BJ,l9,hs,gi,hq⟩
 ·rintro ⟨n,c,BJ,l9,hs,gi,hq⟩
  obtain ⟨c',z9⟩:=hr;have l1:=E0 (L:=L) (Nat.le_max_left c c');have l2:=E0 (L:=L) (Nat.le_max_right c c');refine ⟨n,max c c',BJ,l9,?_,JA l1 (Nat.le_refl n) gi,hq⟩;simp only[CU];rw[m5 (max c c') r (l2.1 f vs r z9)];exact O6 l1 hs
theorem Qs {d:Option Nat} {f:Nat} {x:AR} {xs:List AR} {g:Option (Nat × Bool)} {c7:List Nat} {l:List AI} {vs:List AV} {r:AV} (h:E6 st g=some true) (hx:st.ev x = .fn true f (L.num f) []) (hv:(xs.map st.ev).mapM (CN st.own true)=some vs) (hr:Ev L f vs r) :
  AO L (⟨d,.n8 x xs,g,c7⟩::l) k st Q↔AO L l k (st.dst d r) Q:=by
 have m5 : ∀ c r',GG L c f vs=some r'->CO (CH L c) ⟨d,.n8 x xs,g,c7⟩ st=some (st.dst d r'):=λ c r' hc=>by
  have z9:(CH L c).pure f vs=some r':=hc;simp [CO,h,g6,hx,V5,hv,z9,St.app]
 constructor
 ·rintro ⟨n,c,BJ,l9,hs,gi,hq⟩
  simp only[CU]at hs;cases hI:CO (CH L c) ⟨d,.n8 x xs,g,c7⟩ st with
  | none=>simp [hI]at hs
  | some A4 =>
   simp only[hI]at hs;cases hp:GG L c f vs with
   | none =>
    have z9:(CH L c).pure f vs=none:=hp;simp [CO,h,g6,hx,V5,hv,z9]at hI
   | some r' =>
    obtain rfl:r'=r:=Ev.Af ⟨c,hp⟩ hr;rw[m5 c r' hp]at hI;obtain rfl:=Option.some.inj hI;exact ⟨n,c,BJ,l9,hs,gi,hq⟩
 ·rintro ⟨n,c,BJ,l9,hs,gi,hq⟩
  obtain ⟨c',z9⟩:=hr;have l1:=E0 (L:=L) (Nat.le_max_left c c');have l2:=E0 (L:=L) (Nat.le_max_right c c');refine ⟨n,max c c',BJ,l9,?_,JA l1 (Nat.le_refl n) gi,hq⟩;simp only[CU];rw[m5 (max c c') r (l2.1 f vs r z9)];exact O6 l1 hs
theorem Qq {d:Option Nat} {f:Nat} {w:AV} {cs:List AV} {x:AR} {xs:List AR} {g:Option (Nat × Bool)} {c7:List Nat} {l:List AI} {vs:List AV} {r:AV} (h:E6 st g=some true) (hx:st.ev x = .fn true f (L.num f) (w::cs)) (hv:(AV.agg (w::cs)::xs.map st.ev).mapM (CN st.own true)=some vs) (hr:Ev L f vs r) :
  AO L (⟨d,.n8 x xs,g,c7⟩::l) k st Q↔AO L l k (st.dst d r) Q:=by
 have m5 : ∀ c r',GG L c f vs=some r'->CO (CH L c) ⟨d,.n8 x xs,g,c7⟩ st=some (st.dst d r'):=λ c r' hc=>by
  have z9:(CH L c).pure f vs=some r':=hc;simp [CO,h,g6,hx,V5,hv,z9,St.app]
 constructor
 ·rintro ⟨n,c,BJ,l9,hs,gi,hq⟩
  simp only[CU]at hs;cases hI:CO (CH L c) ⟨d,.n8 x xs,g,c7⟩ st with
  | none=>simp [hI]at hs
  | some A4 =>
   simp only[hI]at hs;cases hp:GG L c f vs with
   | none =>
    have z9:(CH L c).pure f vs=none:=hp;simp [CO,h,g6,hx,V5,hv,z9]at hI
   | some r' =>
    obtain rfl:r'=r:=Ev.Af ⟨c,hp⟩ hr;rw[m5 c r' hp]at hI;obtain rfl:=Option.some.inj hI;exact ⟨n,c,BJ,l9,hs,gi,hq⟩
 ·rintro ⟨n,c,BJ,l9,hs,gi,hq⟩
  obtain ⟨c',z9⟩:=hr;have l1:=E0 (L:=L) (Nat.le_max_left c c');have l2:=E0 (L:=L) (Nat.le_max_right c c');refine ⟨n,max c c',BJ,l9,?_,JA l1 (Nat.le_refl n) gi,hq⟩;simp only[CU];rw[m5 (max c c') r (l2.1 f vs r z9)];exact O6 l1 hs
theorem Qt {d:Option Nat} {f:Nat} {xs:List AR} {g:Option (Nat × Bool)} {c7:List Nat} {l:List AI} {r:AV} (h:E6 st g=some true) (hq:(xs.map st.ev).all dq=true) (hr:Ev L f ((xs.map st.ev).map wk) r) (kj:JM r\/VV r) :
  AO L (⟨d,.o0 f xs,g,c7⟩::l) k st Q↔AO L l k (st.dst d (K2 r)) Q:=by
 have m5 : ∀ c,GG L c f ((xs.map st.ev).map wk)=some r->CO (CH L c) ⟨d,.o0 f xs,g,c7⟩ st=some (st.dst d (K2 r)):=λ c hc=>by
  have z9:(CH L c).pure f ((xs.map st.ev).map wk)=some r:=hc;simp only[CO,h,g6];rw[if_pos hq,z9];simp only[if_pos kj,Option.map_some,St.app]
 constructor
 ·rintro ⟨n,c,BJ,l9,hs,gi,Cs⟩
  simp only[CU]at hs;cases hp:GG L c f ((xs.map st.ev).map wk) with
  | none =>
   have z9:(CH L c).pure f ((xs.map st.ev).map wk)=none:=hp;simp only[CO,h,g6]at hs;rw[if_pos hq,z9]at hs;simp at hs
  | some r' =>
   obtain rfl:r'=r:=Ev.Af ⟨c,hp⟩ hr;rw[m5 c hp]at hs;exact ⟨n,c,BJ,l9,hs,gi,Cs⟩
 ·rintro ⟨n,c,BJ,l9,hs,gi,Cs⟩
  obtain ⟨c',z9⟩:=hr;have l1:=E0 (L:=L) (Nat.le_max_left c c');have l2:=E0 (L:=L) (Nat.le_max_right c c');refine ⟨n,max c c',BJ,l9,?_,JA l1 (Nat.le_refl n) gi,Cs⟩;simp only[CU];rw[m5 (max c c') (l2.1 f _ r z9)];exact O6 l1 hs
theorem Qu {d:Option Nat} {s f:Nat} {xs:List AR} {g:Option (Nat × Bool)} {c7:List Nat} {l:List AI} {vs:List AV} {z:Nat} {es:List (List AV)} (h:E6 st g=some true) (hv:(xs.map st.ev).mapM (O5 (st.own.o3 c7) true)=some vs) (hr:JL L f vs z es)
  (ha:AO L l k (st.app d (.new s ⟨z,es⟩ (λ t => .row s t z 0 es.length))) Q):AO L (⟨d,.u9 s f xs,g,c7⟩::l) k st Q:=by
 obtain ⟨n,c,BJ,l9,hs,gi,hq⟩:=ha;obtain ⟨c',z9⟩:=hr;have l1:=E0 (L:=L) (Nat.le_max_left c c');have l2:=E0 (L:=L) (Nat.le_max_right c c');have vu:OE ((CH L (max c c')).ic f vs AH.emp)=some (z,es):=nU (l2.2.1 f vs AH.emp) z9;refine ⟨n,max c c',BJ,l9,?_,JA l1 (Nat.le_refl n) gi,hq⟩;simp only[CU];have:CO (CH L (max c c')) ⟨d,.u9 s f xs,g,c7⟩ st=some (st.app d (.new s ⟨z,es⟩ (λ t => .row s t z 0 es.length))):=by
  simp only[CO,h,g6,hv,vu,Option.map_some]
 rw[this];exact O6 l1 hs
def nA (L:Lib) (s f:Nat) (vs:List AV) (q:B1) (r:AV) (q':B1):Prop := ∃ n,∀ o:AH,o s=q->C6 L n f vs o=some (r,o.put s q')
theorem Qw {d:Option Nat} {s f:Nat} {xs:List AR} {g:Option (Nat × Bool)} {c7:List Nat} {l:List AI} {r:AV} {q':B1} (h:E6 st g=some true) (hr:nA L s f (xs.map st.ev) (st.own s) r q')
  (ha:AO L l k (st.app d (.wm s q' r)) Q):AO L (⟨d,.cq s f xs,g,c7⟩::l) k st Q:=by
 obtain ⟨n,c,BJ,l9,hs,gi,hq⟩:=ha;obtain ⟨c',z9⟩:=hr;have l1:=E0 (L:=L) (Nat.le_max_left c c');have l2:=E0 (L:=L) (Nat.le_max_right c c');have vu:aI (CH L (max c c')) f (xs.map st.ev) s (st.own s)=some (r,q'):=aJ.2 λ o ho=>l2.2.1 f _ o _ (z9 o ho)
 refine ⟨n,max c c',BJ,l9,?_,JA l1 (Nat.le_refl n) gi,hq⟩;simp only[CU];have:CO (CH L (max c c')) ⟨d,.cq s f xs,g,c7⟩ st=some (st.app d (.wm s q' r)):=by
  simp only[CO,h,g6,vu,Option.map_some]
 rw[this];exact O6 l1 hs
theorem Qr {d:Option Nat} {f:Nat} {xs:List AR} {g:Option (Nat × Bool)} {c7:List Nat} {l:List AI} {r:AV} {o':AH} (h:E6 st g=some true) (hr:FZ L f (xs.map st.ev) st.own r o') :
  AO L (⟨d,.e9 f xs,g,c7⟩::l) k st Q↔AO L l k { (st.dst d r) with own:=o' } Q:=by
 have m5 : ∀ c r' o1,C6 L c f (xs.map st.ev) st.own=some (r',o1)->CO (CH L c) ⟨d,.e9 f xs,g,c7⟩ st=some { (st.dst d r') with own:=o1 }:=λ c r' o1 hc=>by
  have z9:(CH L c).ic f (xs.map st.ev) st.own=some (r',o1):=hc;simp [CO,h,g6,z9,St.app]
 constructor
 ·rintro ⟨n,c,BJ,l9,hs,gi,hq⟩
  simp only[CU]at hs;cases hI:CO (CH L c) ⟨d,.e9 f xs,g,c7⟩ st with
  | none=>simp [hI]at hs
  | some A4 =>
   simp only[hI]at hs;cases hp:C6 L c f (xs.map st.ev) st.own with
   | none =>
    have z9:(CH L c).ic f (xs.map st.ev) st.own=none:=hp;simp [CO,h,g6,z9]at hI
   | some x =>
    obtain ⟨r',o1⟩:=x;obtain ⟨rfl,rfl⟩:=FZ.Af ⟨c,hp⟩ hr;rw[m5 c r' o1 hp]at hI;obtain rfl:=Option.some.inj hI;exact ⟨n,c,BJ,l9,hs,gi,hq⟩
 ·rintro ⟨n,c,BJ,l9,hs,gi,hq⟩
  obtain ⟨c',z9⟩:=hr;have l1:=E0 (L:=L) (Nat.le_max_left c c');have l2:=E0 (L:=L) (Nat.le_max_right c c');refine ⟨n,max c c',BJ,l9,?_,JA l1 (Nat.le_refl n) gi,hq⟩;simp only[CU];rw[m5 (max c c') r o' (l2.2.1 f _ _ _ z9)];exact O6 l1 hs
theorem Qv {d:Option Nat} {f:Nat} {cs:List AV} {x:AR} {xs:List AR} {g:Option (Nat × Bool)} {c7:List Nat} {l:List AI} {r:AV} {o':AH} (h:E6 st g=some true) (hx:st.ev x = .fn false f (L.num f) cs) (hr:FZ L f (xs.map st.ev++cs) st.own r o') :
  AO L (⟨d,.n8 x xs,g,c7⟩::l) k st Q↔AO L l k { (st.dst d r) with own:=o' } Q:=by
 have m5 : ∀ c r' o1,C6 L c f (xs.map st.ev++cs) st.own=some (r',o1)->CO (CH L c) ⟨d,.n8 x xs,g,c7⟩ st=some { (st.dst d r') with own:=o1 }:=λ c r' o1 hc=>by
  have z9:(CH L c).ic f (xs.map st.ev++cs) st.own=some (r',o1):=hc;simp [CO,h,g6,hx,V5,z9,St.app]
 constructor
 ·rintro ⟨n,c,BJ,l9,hs,gi,hq⟩
  simp only[CU]at hs;cases hI:CO (CH L c) ⟨d,.n8 x xs,g,c7⟩ st with
  | none=>simp [hI]at hs
  | some A4 =>
   simp only[hI]at hs;cases hp:C6 L c f (xs.map st.ev++cs) st.own with
   | none =>
    have z9:(CH L c).ic f (xs.map st.ev++cs) st.own=none:=hp;simp [CO,h,g6,hx,V5,z9]at hI
   | some x =>
    obtain ⟨r',o1⟩:=x;obtain ⟨rfl,rfl⟩:=FZ.Af ⟨c,hp⟩ hr;rw[m5 c r' o1 hp]at hI;obtain rfl:=Option.some.inj hI;exact ⟨n,c,BJ,l9,hs,gi,hq⟩
 ·rintro ⟨n,c,BJ,l9,hs,gi,hq⟩
  obtain ⟨c',z9⟩:=hr;have l1:=E0 (L:=L) (Nat.le_max_left c c');have l2:=E0 (L:=L) (Nat.le_max_right c c');refine ⟨n,max c c',BJ,l9,?_,JA l1 (Nat.le_refl n) gi,hq⟩;simp only[CU];rw[m5 (max c c') r o' (l2.2.1 f _ _ _ z9)];exact O6 l1 hs
theorem Sg {Q':St->Prop} (h:AK L k st Q) (hq : ∀ s,Q s->Q' s):AK L k st Q':=by
 obtain ⟨n,c,l9,hr,hh⟩:=h;exact ⟨n,c,l9,hr,hq _ hh⟩
theorem FZ.intro {f:Nat} {fn:AFn} {vs:List AV} {o:AH} {r:AV} {o':AH} (hL:L f=some fn) (hp:vs.length=fn.bm) (h:AK L [.code fn.body] ⟨CB 0 vs,o⟩ (λ st=>(fn.res.mapM (EV st)).map HB=some r/\st.own=o')):FZ L f vs o r o':=by
 obtain ⟨n,c,l9,hr,h1,h2⟩:=h;refine ⟨max n c+1,?_⟩;rw[YH];simp only[hL,hp,if_true];rw[JA (E0 (L:=L) (Nat.le_max_right n c)) (Nat.le_max_left n c) hr];cases hm:fn.res.mapM (EV l9) with
 | none=>rw[hm]at h1;cases h1
 | some rs =>
  rw[hm]at h1;simp only[Option.map_some,Option.some.injEq]at h1;simp [hm,h1,h2]
theorem FH.intro {f:Nat} {fn:AFn} {vs:List AV} {r:AV} (hL:L f=some fn) (hp:vs.length=fn.bm) (h:AK L [.code fn.body] ⟨CB 0 vs,AH.emp⟩ (λ st=>((fn.res.mapM (EV st)).map HB).bind (Q6 st.own false)=some r/\A1 r)):FH L f vs r:=by
 obtain ⟨n,c,l9,hr,h1,h2⟩:=h;cases hm:(fn.res.mapM (EV l9)).map HB with
 | none=>rw[hm]at h1;cases h1
 | some r0 =>
  rw[hm]at h1;simp only[Option.bind_some]at h1;obtain ⟨q,hq⟩:=FZ.intro (o:=AH.emp) (r:=r0) (o':=l9.own) hL hp ⟨n,c,l9,hr,hm,rfl⟩;refine ⟨q,?_⟩;unfold HU;simp [hq,h1,h2]
theorem FH.ev {f:Nat} {fn:AFn} {vs:List AV} {r:AV} (hL:L f=some fn) (h:FH L f vs r) (hs:fn.ot=false:=by rfl):Ev L f vs r:=by
 obtain ⟨n,h⟩:=h;have hs:L.ot f=false:=by simp only[Lib.ot,hL,hs]
 exact ⟨n,by unfold GG J3;rw[hs];exact h⟩
theorem FH.cons {f:Nat} {q:Bool} {e:List AV} {es:List (List AV)} {vs:List AV} {r:AV} (h:FH L f (.sl q (e::es)::vs) r):Ev L f (.sl q (e::es)::vs) r:=by
 obtain ⟨n,h⟩:=h;refine ⟨n,?_⟩;unfold GG J3;split
 ·rename_i heq;simp at heq
 ·exact h
theorem FH.nil {f:Nat} {fn:AFn} {q:Bool} {vs:List AV} {r:AV} (hL:L f=some fn) (h1:FH L f (.da (.bool true)::vs) r) (h2:FH L f (.da (.bool false)::vs) r) (hs:fn.ot=true:=by rfl):Ev L f (.sl q []::vs) r:=by
 obtain ⟨n,h1⟩:=h1;obtain ⟨n',h2⟩:=h2;have hs:L.ot f=true:=by simp only[Lib.ot,hL,hs]
 have k1:=Y7 (λ vs r h=>(E0 (L:=L) (Nat.le_max_left n n')).2.1 f vs AH.emp r h) h1;have k2:=Y7 (λ vs r h=>(E0 (L:=L) (Nat.le_max_right n n')).2.1 f vs AH.emp r h) h2;refine ⟨max n n',?_⟩;unfold GG J3;rw[hs];simp only;have k1':HU (λ vs=>C6 L (max n n') f vs AH.emp) (.da (.bool true)::vs)=some r:=k1;have k2':HU (λ vs=>C6 L (max n n') f vs AH.emp) (.da (.bool false)::vs)=some r:=k2;rw[k1',k2'];simp
theorem Ev.intro {f:Nat} {fn:AFn} {vs:List AV} {r:AV} (hL:L f=some fn) (hp:vs.length=fn.bm) (h:AK L [.code fn.body] ⟨CB 0 vs,AH.emp⟩ (λ st=>((fn.res.mapM (EV st)).map HB).bind (Q6 st.own false)=some r/\A1 r)) (hs:fn.ot=false:=by rfl):Ev L f vs r :=
 (FH.intro hL hp h).ev hL hs
end
end Go.e8

namespace Go.e8
section
variable {L:Lib} {k:List It} {tm:Tm} {own:AH} {Q:St->Prop} {l:List AI} {c7:List Nat} {d:Nat}
theorem ZR (i:Nat) (v:AV) (r:Tm) (j:Nat):g7 ((i,v)::r) j=if j=i then v else g7 r j:=rfl
theorem Aiq (j:Nat):g7 [] j = .any:=rfl
theorem Ain (i:Nat) (v:AV) (r:Tm) (l:List Nat):bg ((i,v)::r) l=if l.contains i then bg r l else (i,v)::bg r l:=rfl
theorem Aio (l:List Nat):bg [] l=[]:=rfl
theorem Afl (i:Nat) (v:AV) (r:List AV):CB i (v::r)=(i,v)::CB (i+1) r:=rfl
end
end Go.e8

namespace Go.e8
section
variable {L:Lib} {k:List It} {tm:Tm} {own:AH} {st:St} {Q:St->Prop} {l:List AI} {c7:List Nat} {d:Nat} {dst:Option Nat}
section
variable {x y:AR} {kd:IntKind} {a b:Int}
end
def XX (fn:AFn) (r:AV) (st:St):Prop:=((fn.res.mapM (EV st)).map HB).bind (Q6 st.own false)=some r/\A1 r
theorem Ev.fwd {f:Nat} {fn:AFn} {vs:List AV} {r:AV} (hL:L f=some fn) (hp:vs.length=fn.bm) (h:AK L [.code fn.body] ⟨CB 0 vs,AH.emp⟩ (XX fn r)) (hs:fn.ot=false:=by rfl):Ev L f vs r:=Ev.intro hL hp h hs
theorem FH.fwd {f:Nat} {fn:AFn} {vs:List AV} {r:AV} (hL:L f=some fn) (hp:vs.length=fn.bm) (h:AK L [.code fn.body] ⟨CB 0 vs,AH.emp⟩ (XX fn r)):FH L f vs r:=FH.intro hL hp h
end
attribute [irreducible] XX
end Go.e8

namespace Go.e8
def pw (n:Int):Int:=2^n.toNat
theorem Ag4 (n:Int):1<=pw n:=by
 have:0<pw n:=Int.pow_pos (by decide)
 omega
theorem AhZ {k2:IntKind} {a n:Int} (h:0<=n/\n<=63):C3 .shr .i64 a k2 n=some (.int .i64 (a/pw n)):=by
 have h2:=Ag4 n;have e:(2:Int)^(min n.toNat IntKind.i64.bits)=pw n:=by
  have:min n.toNat IntKind.i64.bits=n.toNat:=by simp only[IntKind.bits];omega
  rw[this];rfl
 simp only[C3];rw[if_neg (by omega),e,Int.fdiv_eq_ediv_of_nonneg _ (by omega)]
theorem yX {a m:Int} (hm:0<m):a.tmod m=if 0<=a\/a%m=0 then a%m else a%m-m:=by
 have h:=Int.tmod_eq_emod (a:=a) (b:=m);rw[h];have hd:m ∣ a↔a%m=0:=Int.dvd_iff_emod_eq_zero;by_cases h0:0<=a\/a%m=0
 ·rw[if_pos h0,if_pos (by rcases h0 with h0|h0;exact Or.inl h0;exact Or.inr (hd.2 h0))];omega
 ·rw[if_neg h0,if_neg (λ h=>h0 (h.imp id hd.1))]
  have:(m.natAbs:Int)=m:=by omega
  omega
theorem yV {a m:Int} (hm:0<m):a.tdiv m=if 0<=a\/a%m=0 then a/m else a/m+1:=by
 have h:=Int.tdiv_eq_ediv (a:=a) (b:=m);rw[h];have hd:m ∣ a↔a%m=0:=Int.dvd_iff_emod_eq_zero;by_cases h0:0<=a\/a%m=0
 ·rw[if_pos h0,if_pos (by rcases h0 with h0|h0;exact Or.inl h0;exact Or.inr (hd.2 h0))];omega
 ·rw[if_neg h0,if_neg (λ h=>h0 (h.imp id hd.1)),Int.sign_eq_one_of_pos hm]
theorem Yc {a m:Int} (hm:1<=m) (h : -9223372036854775808<=a/\a<=9223372036854775807) : -9223372036854775808<=a/m/\a/m<=9223372036854775807:=by
 constructor
 ·rw[Int.le_ediv_iff_mul_le (by omega)]
  have:=Int.mul_le_mul_of_nonpos_left (a := -9223372036854775808) (b:=m) (c:=1) (by omega) hm
  omega
 ·have:a/m<9223372036854775808:=by
   rw[Int.ediv_lt_iff_lt_mul (by omega)];have:=Int.mul_le_mul_of_nonneg_left (c:=9223372036854775808) (a:=1) (b:=m) hm (by omega)
   omega
  omega
section
variable {L:Lib} {k:List It} {tm:Tm} {own:AH} {Q:St->Prop} {l:List AI} {c7:List Nat} {d:Nat} {x y:AR} {a b n p:Int} {k2:IntKind}
end
end Go.e8

namespace Go.e8
theorem XH (ts:List Nat) (j:Nat) : ∀ tm:Tm,g7 (bg tm ts) j=if ts.contains j then .any else g7 tm j
 | []=>by simp [Aio,Aiq]
 | (i,u)::r=>by
  rw[Ain];by_cases h:ts.contains i=true
  ·rw[if_pos h,XH ts j r,ZR]
   by_cases h2:j=i
   ·subst h2;rw[if_pos h,if_pos h]
   ·rw[if_neg h2]
  ·rw[if_neg h,ZR,ZR,XH ts j r]
   by_cases h2:j=i
   ·subst h2;rw[if_pos rfl,if_pos rfl,if_neg h]
   ·rw[if_neg h2,if_neg h2]
def PW (j:Nat):List Nat->Bool
 | []=>false
 | i::r=>bif Nat.beq j i then true else PW j r
abbrev ON (n:Int):List AV:=[.int .i64 n]
section
variable {L:Lib} {k:List It} {tm:Tm} {own:AH} {Q:St->Prop} {l:List AI} {c7:List Nat} {d:Nat} {x i:AR} {kd:IntKind} {a:Int} {q:Bool} {α:Type} {es:List α} {enc:α->List AV} {z:Nat}
end
end Go.e8

namespace Go.e8
inductive A3 where
 | bx (cs:List AV)
 | rw (z:Nat) (es:List (List AV))
 | bs (z:Nat) (es:List (List AV))
 | mx (rows:List (Option (Nat × List (List AV))))
 | hx (i:Nat) (v:AV) (rows:List (Option (Nat × List (List AV))))
 | vw (w:List Nat) (rows:List (Option (Nat × List (List AV))))
abbrev Mem:=List (Nat × Nat × A3)
def c8:Mem->Nat->Option (Nat × A3)
 | [],_=>none
 | (k,s,c)::r,j=>bif Nat.beq j k then some (s,c) else c8 r j
def c4 (M:Mem) (k t:Nat):Option A3:=match c8 M k with
 | none=>none
 | some (_,c)=>match t with
  | 0=>some c
  | i+1=>match c with
   | .mx rows=>match rows[i]? with
    | some (some (z,es))=>some (.rw z es)
    | _=>none
   | .hx _ _ rows=>match rows[i]? with
    | some (some (z,es))=>some (.rw z es)
    | _=>none
   | .vw _ rows=>match rows[i]? with
    | some (some (z,es))=>some (.rw z es)
    | _=>none
   | _=>none
def q5 (j:Nat):Mem->Mem
 | []=>[]
 | (k,s,c)::r=>bif Nat.beq j k then q5 j r else (k,s,c)::q5 j r
def tg:Tm->Nat->AV
 | [],_ => .any
 | (i,v)::r,j=>bif Nat.beq j i then v else tg r j
def bit (m i:Nat):Bool:=Nat.beq (Nat.land (Nat.shiftRight m i) 1) 1
def mask:Nat->List Nat->Nat
 | m,[]=>m
 | m,t::ts=>mask (Nat.lor m (Nat.shiftLeft 1 t)) ts
def vn (m:Nat):Tm->Tm
 | []=>[]
 | (i,v)::r=>bif bit m i then vn m r else (i,v)::vn (Nat.lor m (Nat.shiftLeft 1 i)) r
def fN (n:Nat) (K:Nat->Prop):Prop:=match n with
 | 0=>K 0
 | k+1=>K (k+1)
def tc:AV->Bool
 | .int _ _=>true | .bool _=>true | .da _=>true | .sl _ _=>true | .nil=>true
 | _=>false
def DR:List AV->Bool
 | []=>true
 | v::r=>bif tc v then DR r else false
def YD:List (List AV)->Bool
 | []=>true
 | v::r=>bif DR v then YD r else false
def NE (s:Nat):AV->Bool
 | .row k _ _ _ _=>Nat.beq k s | .ptr k _ _ _=>Nat.beq k s
 | _=>false
def HC (s:Nat):List AV->Bool
 | []=>false
 | v::r=>bif NE s v then true else HC s r
def IJ (s:Nat):List (List AV)->Bool
 | []=>false
 | v::r=>bif HC s v then true else IJ s r
def P4 (s:Nat):AV->Bool
 | .agg cs=>HC s cs
 | .fn _ _ _ cs=>HC s cs
 | v=>NE s v
def XB (s:Nat):List AV->Bool
 | []=>false
 | v::r=>bif P4 s v then true else XB s r
def NF (s:Nat):AV->Bool
 | .l6 vs=>XB s vs
 | v=>P4 s v
def HD (s:Nat):Tm->Bool
 | []=>false
 | (_,v)::r=>bif NF s v then true else HD s r
def GK (s:Nat):A3->Bool
 | .bx cs=>HC s cs
 | .rw _ _=>false
 | .bs _ es=>IJ s es
 | .mx _=>false
 | .hx _ _ _=>false
 | .vw _ _=>false
def F9 (s:Nat):Mem->Bool
 | []=>false
 | (k,_,c)::r=>bif Nat.beq s k then true else bif GK s c then true else F9 s r
def PK (s:Nat):AV->Bool
 | .row k t _ _ _=>bif Nat.beq k s then (match t with|0=>false|_+1=>true) else false
 | .ptr k t _ _=>bif Nat.beq k s then (match t with|0=>false|_+1=>true) else false
 | _=>false
def OI (s:Nat):List AV->Bool
 | []=>false
 | v::r=>bif PK s v then true else OI s r
def SN (s:Nat):AV->Bool
 | .agg cs=>OI s cs
 | .fn _ _ _ cs=>OI s cs
 | v=>PK s v
def V3 (s:Nat):List AV->Bool
 | []=>false
 | v::r=>bif SN s v then true else V3 s r
def QH (s:Nat):AV->Bool
 | .l6 vs=>V3 s vs
 | v=>SN s v
def IU (s:Nat):Tm->Bool
 | []=>false
 | (_,v)::r=>bif QH s v then true else IU s r
def V4 (s:Nat):List (List AV)->Bool
 | []=>false
 | v::r=>bif OI s v then true else V4 s r
def OH (s:Nat):A3->Bool
 | .bx cs=>OI s cs
 | .bs _ es=>V4 s es
 | _=>false
def HL (s:Nat):Mem->Bool
 | []=>false
 | (_,_,c)::r=>bif OH s c then true else HL s r
def used (k:Nat) (tm:Tm) (M:Mem):Bool:=bif F9 k M then true else HD k tm
def cQ (tm:Tm) (M:Mem):List Nat->(Nat->Prop)->Prop
 | [],_=>False
 | k::r,K=>bif used k tm M then cQ tm M r K else K k
def FP (s:Nat) (tm:Tm) (M:Mem) (K:Nat->Prop):Prop:=cQ tm M [s,s+1000000,s+2000000,s+3000000] K
def fL:List AV->(List AV->Prop)->Prop
 | [],K=>K []
 | v::r,K=>fL r λ r'=>K (v::r')
def fV (v:AV) (K:AV->Prop):Prop:=match v with
 | .int k n=>K (.int k n) | .bool b=>K (.bool b) | .sl l es=>K (.sl l es) | .row s t z o n=>K (.row s t z o n)
 | .nil=>K .nil | .ptr s t i j=>K (.ptr s t i j) | .u6 cs=>K (.u6 cs) | .agg cs=>fL cs λ cs=>K (.agg cs)
 | .fn p f g cs=>fL cs λ cs=>K (.fn p f g cs)
 | .l6 vs=>fL vs λ vs=>K (.l6 vs) | .da c=>K (.da c) | .any=>False
def fC (v:AV) (K:List AV->Prop):Prop:=match v with
 | .agg cs=>fL cs K
 | .fn _ _ _ _=>False
 | .l6 _=>False
 | .any=>False
 | v=>fV v λ v=>K [v]
def fB (b:Bool) (K:Bool->Prop):Prop:=match b with
 | true=>K true
 | false=>K false
def fT:Tm->(Tm->Prop)->Prop
 | [],K=>K []
 | (i,v)::r,K=>fT r λ r'=>K ((i,v)::r')
def fM:Mem->(Mem->Prop)->Prop
 | [],K=>K []
 | (k,s,c)::r,K=>fM r λ r'=>K ((k,s,c)::r')
def fF (v:AV) (K:AV->Prop):Prop:=match v with
 | .int k n=>K (.int k n) | .bool b=>K (.bool b) | .sl l es=>K (.sl l es) | .row s t z o n=>K (.row s t z o n)
 | .nil=>K .nil | .ptr s t i j=>K (.ptr s t i j) | .da c=>K (.da c)|_=>False
def f2 (v:AV) (K:AV->Prop):Prop:=match v with
 | .int k n=>K (.int k n) | .bool b=>K (.bool b) | .sl l es=>K (.sl l es) | .row s t z o n=>K (.row s t z o n)
 | .nil=>K .nil | .ptr s t i j=>K (.ptr s t i j) | .da c=>K (.da c) | .agg cs=>fL cs λ cs=>K (.agg cs) | .fn p f g cs=>fL cs λ cs=>K (.fn p f g cs)|_=>False
def qy (agg:Bool) (ds:List AV) (K:AV->Prop):Prop:=match agg with
 | true=>K (.agg ds)
 | false=>match ds with
  | [c]=>fF c K
  | _=>False
def AF (p q A B:Prop):Prop:=(p->A)/\(q->B)
def AM (p A:Prop):Prop:=p/\A
def AE (op:BinOp) (k:IntKind) (a:Int) (k':IntKind) (b:Int) (K:AV->Prop):Prop := ∃ v,C3 op k a k' b=some v/\K v
def C8 (op:UnOp) (k:IntKind) (n:Int) (K:AV->Prop):Prop := ∃ v,RE op (.int k n)=some v/\K v
structure AZ (k:IntKind) (n:Int) (K:Int->Prop):Prop where h:K (k.wrap n)
def AX (es:List (List AV)) (a:Int) (z:Nat) (K:List AV->Prop):Prop:=0<=a /\ ∃ cs,es[a.toNat]? = some cs/\cs.length=z/\K cs
def BF (es:List (List AV)) (i j n:Nat) (K:List AV->Prop):Prop := ∃ cs ds,es[i]? = some cs/\part cs j n=some ds/\K ds
def BD (es:List (List AV)) (i j:Nat) (vs:List AV) (K:List (List AV)->Prop):Prop := ∃ cs,es[i]? = some cs/\j+vs.length<=cs.length/\K (es.set i (splice cs j vs))
def B9 (a b:Int) (bytes:Nat) (zero:List AV) (K:List (List AV)->Nat->Prop):Prop:=(0<=a/\a<=b/\b*bytes<=EC/\b<=9223372036854775807)/\K (List.replicate a.toNat zero) a.toNat
structure AP (es:List (List AV)) (K:Nat->Prop):Prop where h:K es.length
def B2 (es:List (List AV)) (len:Nat) (ys:List (List AV)) (z bytes:Nat) (K:List (List AV)->Nat->Prop):Prop :=
 len<=es.length/\(∀ e∈ys,e.length=z)/\(len+ys.length)*bytes<=EC/\len+ys.length<=9223372036854775807/\K (es.take len++ys) (len+ys.length)
def CX (ys:List (List AV)) (z bytes:Nat) (K:List (List AV)->Nat->Prop):Prop :=
 (∀ e∈ys,e.length=z)/\ys.length*bytes<=EC/\ys.length<=9223372036854775807/\K ys ys.length
def E9 (es:List (List AV)) (off len:Nat) (ys:List (List AV)) (z:Nat) (K:List (List AV)->Nat->Prop):Prop :=
 off+len<=es.length/\(∀ e∈ys,e.length=z)/\K (es.take off++ys.take len++es.drop (off+min ys.length len)) (min ys.length len)
def B0 (es:List (List AV)) (off len:Nat) (K:List (List AV)->Prop):Prop:=off+len<=es.length/\K ((es.drop off).take len)
def E7:List AV->Bool
 | []=>true
 | v::r=>match v with
  | .int _ _=>E7 r | .bool _=>E7 r | .da _=>E7 r | .sl _ _=>E7 r
  | _=>false
def nl:AV->AV
 | .nil => .sl false []
 | v=>v
def LM:List AV->Bool
 | []=>true
 | v::r=>match v with
  | .int _ _=>LM r | .bool _=>LM r | .da _=>LM r | .sl _ _=>LM r | .nil=>LM r
  | _=>false
def A5 (es:List (List AV)) (off len:Nat) (K:List (List AV)->Prop):Prop:=off+len<=es.length/\(∀ e∈es,LM e=true)/\K (((es.drop off).take len).map λ e=>e.map nl)
def BR (rows:List (Option (Nat × List (List AV)))) (i:Nat) (K:Option (Nat × List (List AV))->Prop):Prop := ∃ r,rows[i]? = some r/\K r
def BO (rows:List (Option (Nat × List (List AV)))) (i:Nat) (K:Nat->List (List AV)->Prop):Prop := ∃ z es,rows[i]? = some (some (z,es))/\K z es
def C4 (rows:List (Option (Nat × List (List AV)))) (i z:Nat) (es:List (List AV)) (K:List (Option (Nat × List (List AV)))->Prop):Prop:=i<rows.length/\K (rows.set i (some (z,es)))
def D0 (rows:List (Option (Nat × List (List AV)))) (i z:Nat) (es es':List (List AV)) (K:List (Option (Nat × List (List AV)))->Prop):Prop:=es'.length=es.length/\K (rows.set i (some (z,es')))
def DZ (a b:Int) (bytes:Nat) (K:List (Option (Nat × List (List AV)))->Nat->Prop):Prop:=(0<=a/\a<=b/\b*bytes<=EC/\b<=9223372036854775807)/\K (List.replicate a.toNat none) a.toNat
def DU (rows:List (Option (Nat × List (List AV)))) (len:Nat) (r:Option (Nat × List (List AV))) (bytes:Nat) (K:List (Option (Nat × List (List AV)))->Nat->Prop):Prop :=
 len=rows.length/\(len+1)*bytes<=EC/\len+1<=9223372036854775807/\K (rows++[r]) (len+1)
def Q5 (q:Bool):List (Option (Nat × List (List AV)))->List (List AV)
 | []=>[]
 | none::r=>[.sl false []]::Q5 q r
 | some (_,es)::r=>[.sl q es]::Q5 q r
def DN (q:Bool) (rows:List (Option (Nat × List (List AV)))) (off len:Nat) (K:List (List AV)->Prop):Prop :=
 off=0/\len=rows.length/\(∀ z es,some (z,es)∈rows -> ∀ e∈es,E7 e=true)/\K (Q5 q rows)
def B5 (lo hi:Option Int) (len:Nat) (K:Nat->Nat->Prop):Prop :=
 ∃ a h:Nat,(match lo with|none=>a=0|some x=>0<=x/\a=x.toNat)/\(match hi with|none=>h=len|some x=>0<=x/\x<=len/\h=x.toNat)/\a<=h/\K a h
def CQ (z:Nat) (es:List (List AV)) (lo hi:Option Int) (K:List (List AV)->Prop):Prop:=(∀ e∈es,e.length=z)/\B5 lo hi es.length λ a h=>K ((es.take h).drop a)
def AB (L:Lib) (f:Nat) (vs:List AV) (K:AV->Prop):Prop := ∃ r,Ev L f vs r/\K r
def bQ:List AV->Bool
 | []=>true
 | .int _ _::r=>bQ r
 | _=>false
def DW (L:Lib) (f:Nat) (vs:List AV) (K:Nat->List (List AV)->Nat->Prop):Prop := ∃ z es n,JL L f vs z es/\n=es.length/\K z es n
abbrev FC:=Nat->Nat->Nat × Nat
def A4 (σ:FC):AV->AV
 | .row k t z o n => .row (σ k t).1 (σ k t).2 z o n
 | .ptr k t i j => .ptr (σ k t).1 (σ k t).2 i j
 | v=>v
def BJ (σ:FC):AV->AV
 | .agg cs => .agg (cs.map (A4 σ))
 | .fn p f g cs => .fn p f g (cs.map (A4 σ))
 | v=>A4 σ v
def BC (σ:FC):AV->AV
 | .l6 vs => .l6 (vs.map (BJ σ))
 | v=>BJ σ v
def BU (σ:FC) (k:Nat):Nat->List (Option (Nat × List (List AV)))->List (List AV)
 | _,[]=>[]
 | i,none::r=>[.nil]::BU σ k (i+1) r
 | i,some (z,es)::r=>[.row (σ k (i+1)).1 (σ k (i+1)).2 z 0 es.length]::BU σ k (i+1) r
def A3.e7 (σ:FC) (k:Nat):A3->DM
 | .bx cs=>⟨cs.length,[cs.map (A4 σ)]⟩
 | .rw z es=>⟨z,es⟩
 | .bs z es=>⟨z,es.map λ cs=>cs.map (A4 σ)⟩
 | .mx rows=>⟨1,BU σ k 0 rows⟩
 | .hx i v rows=>⟨1,(BU σ k 0 rows).set i [v]⟩
 | .vw w rows=>⟨1,w.map λ t=>((BU σ k 0 rows)[t]?).getD []⟩
def A3.nq:A3->Bool
 | .bx _=>false
 | _=>true
def ES (s:Nat):Bool:=Nat.blt s 900000
structure JP (σ:FC) (own:AH) (M:Mem):Prop where
 site : ∀ k s c,c8 M k=some (s,c)->(σ k 0).1=s
 e7 : ∀ k t c,c4 M k t=some c->(own (σ k t).1).e7 (σ k t).2=some (c.e7 σ k)
 old : ∀ k t c,c4 M k t=some c->(σ k t).2<(own (σ k t).1).g8
 inj : ∀ k t k' t' c c',c4 M k t=some c->c4 M k' t'=some c'->σ k t=σ k' t'->k=k'/\t=t'
 low : ∀ k t c,c4 M k t=some c->c.nq=true->ES (σ k t).1=true
structure RX (σ:FC) (tm:Tm) (M:Mem) (st:St):Prop where
 tm : ∀ j,tg tm j = .any\/g7 st.tm j=BC σ (tg tm j)
 sat:JP σ st.own M
def SQ (Q:Tm->Mem->Prop) (st:St):Prop := ∃ σ tm M,RX σ tm M st/\Q tm M
def AA (L:Lib) (k:List It) (tm:Tm) (M:Mem) (Q:Tm->Mem->Prop):Prop := ∀ σ st,RX σ tm M st->AK L k st (SQ Q)
def mS (L:Lib) (l:List AI) (k:List It) (tm:Tm) (M:Mem) (Q:Tm->Mem->Prop):Prop := ∀ σ st,RX σ tm M st->AO L l k st (SQ Q)
def A7 (L:Lib) (f:Nat) (vs:List AV) (tm:Tm) (M:Mem) (K:AV->Mem->Prop):Prop :=
 ∀ σ own,JP σ own M -> ∃ r n9 σ' M',FZ L f (vs.map (BC σ)) own (BC σ' r) n9/\JP σ' n9 M'/\(∀ j,BC σ' (tg tm j)=BC σ (tg tm j))/\K r M'
def Rg (L:Lib) (s f key:Nat) (rest:List AV) (M:Mem) (K:AV->Mem->Prop):Prop :=
 ∃ (cells gb:List AV) (kd:IntKind) (n:Int),c8 M key=some (s,.bx cells)/\DR cells=true/\DR gb=true/\(∀ (t:Nat) (q:B1),q.e7 t=some ⟨cells.length,[cells]⟩->nA L s f (.ptr s t 0 0::rest) q (.int kd n) (q.q8 t (some ⟨gb.length,[gb]⟩)))/\K (.int kd n) ((key,s,.bx gb)::M)
def cv:AV->AV
 | .agg cs=>bif DR cs then .agg cs else .any
 | .l6 [] => .l6 []
 | .u6 _ => .any
 | .fn p f g [] => .fn p f g []
 | v=>bif tc v then v else .any
def ex (tm:Tm):AR->AV
 | .t n=>tg tm n
 | .c v=>cv v
def kq (k k':IntKind):Bool:=decide (k=k')
def eU (op:BinOp) (k:IntKind) (a:Int) (k':IntKind) (b:Int) (K:AV->Prop):Prop:=match op with
 | .lss=>bif kq k k' then AF (a<b) (b<=a) (K (.bool true)) (K (.bool false)) else False
 | .leq=>bif kq k k' then AF (a<=b) (b<a) (K (.bool true)) (K (.bool false)) else False
 | .gtr=>bif kq k k' then AF (b<a) (a<=b) (K (.bool true)) (K (.bool false)) else False
 | .geq=>bif kq k k' then AF (b<=a) (a<b) (K (.bool true)) (K (.bool false)) else False
 | .eql=>bif kq k k' then AF (a=b) (a≠b) (K (.bool true)) (K (.bool false)) else False
 | .neq=>bif kq k k' then AF (a≠b) (a=b) (K (.bool true)) (K (.bool false)) else False
 | op=>AE op k a k' b K
noncomputable def UT (mx:Bool) (k:IntKind) (K:AV->Prop) (a:Int) (l:List AV):Prop :=
 List.rec (motive:=λ_=>Int->Prop) (λ a=>K (.int k a)) (λ v _ ih a=>match v with
  | .int _ b=>bif mx then AF (a<b) (b<=a) (ih b) (ih a) else AF (b<a) (a<=b) (ih b) (ih a)
  | _=>False) l a
def yh:List AV->Nat->AV
 | [],_ => .any
 | v::_,0=>v
 | _::r,n+1=>yh r n
def Q1 (s:Nat):List Nat->Bool
 | []=>true
 | c7 => !(PW s c7)
def U4:List Nat->Bool
 | []=>true
 | s::r=>bif ES s then false else U4 r
def kV (M:Mem) (k t:Nat) (K:Nat->List (List AV)->Prop):Prop:=match c8 M k with
 | some (_,c)=>match t with
  | 0=>match c with
   | .rw z es=>K z es
   | _=>False
  | i+1=>match c with
   | .mx rows=>BO rows i K
   | _=>False
 | none=>False
def bC (M:Mem) (v:AV) (K:List (List AV)->Prop):Prop:=match v with
 | .sl _ es=>K es
 | .nil=>K []
 | .da (.bool _)=>K []
 | .row key t z off len=>kV M key t λ z' es=>bif Nat.beq z z' then B0 es off len K else False
 | _=>False
def P8 (q:Bool) (M:Mem) (c7:List Nat) (v:AV) (K:AV->Prop):Prop:=match v with
 | .int k n=>K (.int k n)
 | .bool b=>K (.bool b)
 | .sl l es=>K (.sl l es)
 | .da c=>K (.da c)
 | .nil=>K (.sl false [])
 | .row key t z off len=>match c8 M key with
  | some (s,.rw z' es)=>match t with
   | 0=>bif Nat.beq z z' then bif Q1 s c7 then A5 es off len λ es=>K (.sl q es) else False else False
   | _+1=>False
  | some (_,.mx rows)=>match t with
   | 0=>False
   | i+1=>match c7 with
    | []=>BO rows i λ z' es=>bif Nat.beq z z' then A5 es off len λ es=>K (.sl q es) else False
    | b::r=>bif U4 (b::r) then BO rows i λ z' es=>bif Nat.beq z z' then A5 es off len λ es=>K (.sl q es) else False else False
  | _=>False
 | _=>False
noncomputable def dG (q:Bool) (M:Mem) (c7:List Nat) (l:List AV):(List AV->Prop)->Prop :=
 List.rec (motive:=λ_=>(List AV->Prop)->Prop) (λ K=>K []) (λ v _ ih K=>P8 q M c7 v λ v'=>ih λ r'=>K (v'::r')) l
noncomputable def lJ (q:Bool) (M:Mem) (c7:List Nat) (l:List (List AV)):(List (List AV)->Prop)->Prop :=
 List.rec (motive:=λ_=>(List (List AV)->Prop)->Prop) (λ K=>K []) (λ v _ ih K=>dG q M c7 v λ v'=>ih λ r'=>K (v'::r')) l
noncomputable def VK (q:Bool) (M:Mem) (c7:List Nat) (v:AV) (K:AV->Prop):Prop:=match v with
 | .row key 0 z off len=>match c8 M key with
  | some (s,.bs z' es)=>bif Nat.beq z z' then bif Q1 s c7 then bif Nat.beq off 0 then AM (len=es.length) (lJ q M c7 es λ es=>K (.sl q es)) else False else False else False
  | some (_,.mx rows)=>match c7 with
   | []=>bif Nat.beq z 1 then DN q rows off len λ es=>K (.sl q es) else False
   | _::_=>False
  | _=>P8 q M c7 (.row key 0 z off len) K
 | v=>P8 q M c7 v K
noncomputable def lK (q:Bool) (M:Mem) (c7:List Nat) (l:List AV):(List AV->Prop)->Prop :=
 List.rec (motive:=λ_=>(List AV->Prop)->Prop) (λ K=>K []) (λ v _ ih K=>VK q M c7 v λ v'=>ih λ r'=>K (v'::r')) l
noncomputable def O4 (q:Bool) (M:Mem) (c7:List Nat) (v:AV) (K:AV->Prop):Prop:=match v with
 | .agg cs=>lK q M c7 cs λ cs=>K (.agg cs)
 | v=>VK q M c7 v K
noncomputable def ZK (tm:Tm) (M:Mem) (c7:List Nat) (l:List AR):(List AV->Prop)->Prop :=
 List.rec (motive:=λ_=>(List AV->Prop)->Prop) (λ K=>K []) (λ x _ ih K=>O4 true M c7 (ex tm x) λ v=>ih λ vs=>K (v::vs)) l
noncomputable def dH (M:Mem) (c7:List Nat) (v:AV) (K:AV->Prop):Prop:=match v with
 | .nil=>K .nil
 | v=>O4 true M c7 v K
noncomputable def lL (tm:Tm) (M:Mem) (c7:List Nat) (l:List AR):(List AV->Prop)->Prop :=
 List.rec (motive:=λ_=>(List AV->Prop)->Prop) (λ K=>K []) (λ x _ ih K=>dH M c7 (ex tm x) λ v=>ih λ vs=>K (v::vs)) l
noncomputable def WM (tm:Tm) (l:List AR):(List AV->Prop)->Prop :=
 List.rec (motive:=λ_=>(List AV->Prop)->Prop) (λ K=>K []) (λ x _ ih K=>fV (ex tm x) λ v=>ih λ vs=>K (v::vs)) l
def cJ (tm:Tm) (o:Option AR) (K:Option Int->Prop):Prop:=match o with
 | none=>K none
 | some x=>match ex tm x with
  | .int _ n=>K (some n)
  | _=>False
def YY (es:List (List AV)) (K:Nat->Prop):Prop:=match es with
 | []=>K 0
 | [_]=>K 1
 | [_,_]=>K 2
 | [_,_,_]=>K 3
 | [_,_,_,_]=>K 4
 | es=>K es.length
noncomputable def fD (tm:Tm) (z:Nat) (l:List AR):(List (List AV)->Prop)->Prop :=
 List.rec (motive:=λ_=>(List (List AV)->Prop)->Prop) (λ K=>K []) (λ x _ ih K=>fC (ex tm x) λ cs=>bif Nat.beq cs.length z then ih λ es=>K (cs::es) else False) l
noncomputable def iN (tm:Tm) (ps:List (Nat × Nat × AR)):List AV->(List AV->Prop)->Prop :=
 List.rec (motive:=λ_=>List AV->(List AV->Prop)->Prop) (λ cells K=>K cells) (λ p _ ih cells K=>fC (ex tm p.2.2) λ vs=>bif Nat.beq vs.length p.2.1 then bif Nat.ble (p.1+p.2.1) cells.length then fL (splice cells p.1 vs) λ cells=>ih cells K else False else False) ps
def QM (tm:Tm):List AR->List AV
 | []=>[]
 | x::r=>ex tm x::QM tm r
def R3 (tb:List Nat) (n:Int) (K:Nat->Prop):Prop:=0<=n /\ ∃ v,tb[n.toNat]? = some v/\K v
noncomputable def kC (tm:Tm) (l:List AR):(List AV->Prop)->Prop :=
 List.rec (motive:=λ_=>(List AV->Prop)->Prop) (λ K=>K []) (λ x _ ih K=>fF (ex tm x) λ v=>ih λ cs=>K (v::cs)) l
def kH:AV->Bool
 | .agg _=>false | .fn _ _ _ _=>false | .l6 _=>false | .any=>false
 | _=>true
def Y3:List AV->Bool
 | []=>true
 | v::r=>bif kH v then Y3 r else false
def SF (M:Mem) (v:AV):Option (Nat × Option (Nat × Nat × Nat)):=match v with
 | .row ky 0 1 0 1=>match c8 M ky with
  | some (_,.bs 1 [[.row k2 0 z 0 n]])=>some (ky,some (k2,z,n))
  | some (_,.rw 1 [[.nil]])=>some (ky,none)
  | _=>none
 | _=>none
def YW (z:Nat):List (List AV)->Bool
 | []=>true
 | e::r=>bif Nat.beq e.length z then YW z r else false
def eP (tm:Tm) (M:Mem) (s z bytes:Nat) (x y:AR) (K:AV->Mem->Prop):Prop:=match ex tm y with
 | .row ky 0 zy 0 ny=>match c8 M ky with
  | some (_,.bs z2 kg)=>bif Nat.beq zy z then bif Nat.beq z2 z then bif Nat.beq ny kg.length then bif YW z kg then (match ex tm x with
   | .nil=>bif ES s then YY kg λ n=>AM (n*bytes<=140737488355328/\n<=9223372036854775807) (FP s tm M λ k=>K (.row k 0 z 0 n) ((k,s,.bs z kg)::M)) else False
   | .row kx 0 zx 0 len=>bif Nat.beq zx z then (match c8 M kx with
    | some (s',.bs z1 vo)=>bif Nat.beq z1 z then bif Nat.beq len vo.length then fM (q5 kx M) λ M'=>YY (vo++kg) λ n=>AM (n*bytes<=140737488355328/\n<=9223372036854775807) (FP s tm M λ k=>K (.row k 0 z 0 n) ((k,s',.bs z (vo++kg))::M')) else False else False
    | _=>False) else False
   | _=>False) else False else False else False else False
  | _=>False
 | _=>False
def lT (tm:Tm) (M:Mem) (K:AV->Mem->Prop) (n:Nat) (x v:AR):Prop:=match ex tm x with
 | .ptr key t i j=>fC (ex tm v) λ vs=>bif Nat.beq vs.length n then (match c8 M key with
  | some (s,c)=>match t with
   | 0=>match c with
    | .bx cs=>bif Nat.beq i 0 then bif Nat.ble (j+vs.length) cs.length then fL (splice cs j vs) λ ew=>K (.l6 []) ((key,s,.bx ew)::M) else False else False
    | .rw z es=>bif DR vs then BD es i j vs λ es'=>K (.l6 []) ((key,s,.rw z es')::M) else False
    | .bs _ _=>False
    | .mx rows=>match vs with
     | [.row x9 0 z 0 m]=>bif Nat.beq key x9 then False else bif IU key tm then False else bif HL key M then False else bif Nat.beq j 0 then (match c8 M x9 with
      | some (_,.rw z' es)=>bif Nat.beq z z' then fM (q5 x9 M) λ M'=>AM (m=es.length) (C4 rows i z es λ s9=>K (.l6 []) ((key,s,.mx s9)::M')) else False
      | _=>False) else False
     | [.row x9 (t2+1) z 0 m]=>bif Nat.beq key x9 then bif Nat.beq j 0 then BO rows t2 λ z' es=>bif Nat.beq z z' then AM (m=es.length/\i<rows.length) (K (.l6 []) ((key,s,.vw ((List.range rows.length).set i t2) rows)::M)) else False else False else False
     | _=>False
    | .hx i0 _ rows=>match vs with
     | [.row x9 0 z 0 m]=>bif Nat.beq key x9 then False else bif IU key tm then False else bif HL key M then False else bif Nat.beq j 0 then (match c8 M x9 with
      | some (_,.rw z' es)=>bif Nat.beq z z' then fM (q5 x9 M) λ M'=>AM (i=i0/\m=es.length) (C4 rows i z es λ s9=>K (.l6 []) ((key,s,.mx s9)::M')) else False
      | _=>False) else False
     | _=>False
    | .vw w rows=>match vs with
     | [.row x9 (t2+1) z 0 m]=>bif Nat.beq key x9 then bif Nat.beq j 0 then BO rows t2 λ z' es=>bif Nat.beq z z' then AM (m=es.length/\i<w.length /\ ∀ t∈w,t<rows.length) (K (.l6 []) ((key,s,.vw (w.set i t2) rows)::M)) else False else False else False
     | _=>False
   | i'+1=>match c with
    | .mx rows=>bif DR vs then BO rows i' λ z es=>BD es i j vs λ es'=>D0 rows i' z es es' λ s9=>K (.l6 []) ((key,s,.mx s9)::M) else False
    | _=>False
  | none=>False) else False
 | _=>False
def BZ (r:AV) (K:AV->Prop):Prop:=(JM r\/VV r)/\K (K2 r)
noncomputable def XE (L:Lib) (tm:Tm) (M:Mem) (c7:List Nat) (K:AV->Mem->Prop):DG->Prop
 | .a9 x=>fV (ex tm x) λ v=>K v M
 | .w9 s z=>bif ES s then FP s tm M λ k=>K (.row k 0 z 0 0) ((k,s,.rw z [])::M) else False
 | .pick c a b=>match ex tm c with
  | .bool true=>fV (ex tm a) λ v=>K v M
  | .bool false=>fV (ex tm b) λ v=>K v M
  | _=>False
 | .bin op x y=>match ex tm x,ex tm y with
  | .int k a,.int k' b=>eU op k a k' b λ v=>K v M
  | _,_=>False
 | .beq ne x y=>match ex tm x,ex tm y with
  | .bool a,.bool b=>fB (bif ne then !(a == b) else a == b) λ c=>K (.bool c) M
  | _,_=>False
 | .un op x=>match ex tm x with
  | .int k n=>C8 op k n λ v=>K v M
  | .bool b=>match op with
   | .not=>fB (!b) λ c=>K (.bool c) M
   | _=>False
  | _=>False
 | .conv k x=>match ex tm x with
  | .int _ n=>AZ k n λ v=>K (.int k v) M
  | _=>False
 | .box s x=>fC (ex tm x) λ cs=>FP s tm M λ k=>K (.ptr k 0 0 0) ((k,s,.bx cs)::M)
 | .alloc s zero=>bif DR zero then (FP s tm M λ k=>K (.ptr k 0 0 0) ((k,s,.bx zero)::M)) else False
 | .build zero parts=>bif DR zero then iN tm parts zero λ cs=>K (.agg cs) M else False
 | .c9 s z parts=>bif ES s then fD tm z parts λ es=>YY es λ n=>FP s tm M λ k=>bif YD es then K (.row k 0 z 0 n) ((k,s,.rw z es)::M) else K (.row k 0 z 0 n) ((k,s,.bs z es)::M) else False
 | .a6 x off=>match ex tm x with
  | .ptr key t i j=>K (.ptr key t i (j+off)) M
  | .u6 cs=>fL (cs.drop off) λ cs=>K (.u6 cs) M
  | _=>False
 | .ox x off n agg=>match ex tm x with
  | .agg cs=>match part cs off n with
   | some ds=>fL ds λ ds=>qy agg ds λ v=>K v M
   | none=>False
  | _=>False
 | .a5 arr z x i=>match ex tm i with
  | .int _ n=>match arr,ex tm x with
   | some len,.ptr key t i' j=>AM (0<=n/\n<(len:Int)) (K (.ptr key t i' (j+n.toNat*z)) M)
   | some len,.u6 cs=>AM (0<=n/\n<(len:Int)) (fL (cs.drop (n.toNat*z)) λ cs=>K (.u6 cs) M)
   | none,.row key t z' off len=>bif Nat.beq z' z then AM (0<=n/\n<(len:Int)) (K (.ptr key t (off+n.toNat) 0) M) else False
   | none,.sl _ es=>AX es n z λ cs=>K (.u6 cs) M
   | _,_=>False
  | _=>False
 | .ld agg n x=>match ex tm x with
  | .ptr key t i j=>match c8 M key with
   | some (s,c)=>match t with
    | 0=>bif Q1 s c7 then (match c with
     | .bx cs=>bif Nat.beq i 0 then (match part cs j n with
      | some ds=>fL ds λ ds=>qy agg ds λ v=>K v M
      | none=>False) else False
     | .rw _ es=>BF es i j n λ ds=>fL ds λ ds=>bif DR ds then qy agg ds λ v=>K v M else False
     | .bs _ es=>(match es[i]? with
      | some cs=>(match part cs j n with
       | some ds=>fL ds λ ds=>qy agg ds λ v=>K v M
       | none=>False)
      | none=>False)
     | .mx rows=>bif Nat.beq j 0 then bif Nat.beq n 1 then BR rows i λ r=>match r with
      | some (z,es)=>qy agg [.row key (i+1) z 0 es.length] λ v=>K v M
      | none=>qy agg [.nil] λ v=>K v M else False else False
     | .hx _ _ _=>False
     | .vw _ _=>False) else False
    | i'+1=>match c,c7 with
     | .mx rows,[]=>BO rows i' λ_ es=>BF es i j n λ ds=>fL ds λ ds=>bif DR ds then qy agg ds λ v=>K v M else False
     | .mx rows,b::r=>bif U4 (b::r) then BO rows i' λ_ es=>BF es i j n λ ds=>fL ds λ ds=>bif DR ds then qy agg ds λ v=>K v M else False else False
     | _,_=>False
   | none=>False
  | .u6 cs=>match part cs 0 n with
   | some ds=>fL ds λ ds=>bif DR ds then qy agg ds λ v=>K v M else False
   | none=>False
  | _=>False
 | .st n x v=>lT tm M K n x v
 | .nv s n x v=>match ex tm x with
  | .ptr key 0 _ _=>(match c8 M key with
   | some (s',_)=>bif Nat.beq s' s then lT tm M K n x v else False
   | none=>False)
  | _=>False
 | .o0 f xs=>WM tm xs λ vs=>bif vs.all dq then AB L f (vs.map wk) λ r=>BZ r λ r=>K r M else False
 | .mk s z bytes zero l c=>match ex tm l,ex tm c with
  | .int _ a,.int _ b=>bif Nat.beq zero.length z then bif DR zero then match zero with
   | [.nil]=>bif ES s then DZ a b bytes λ rows n=>FP s tm M λ k=>K (.row k 0 z 0 n) ((k,s,.mx rows)::M) else False
   | zero=>bif ES s then (B9 a b bytes zero λ es n=>FP s tm M λ k=>K (.row k 0 z 0 n) ((k,s,.rw z es)::M)) else False else False else False
  | _,_=>False
 | .gp z x lo hi=>cJ tm lo λ lo=>cJ tm hi λ hi=>match ex tm x with
  | .sl l es=>CQ z es lo hi λ es=>K (.sl l es) M
  | .row key t z' off len=>bif Nat.beq z' z then B5 lo hi len λ a h=>K (.row key t z (off+a) (h-a)) M else False
  | .nil=>(match lo,hi with
   | none,none=>K .nil M
   | some a,none=>AM (a=0) (K .nil M)
   | none,some h=>AM (h=0) (K .nil M)
   | some a,some h=>AM (a=0/\h=0) (K .nil M))
  | _=>False
 | .ext x i=>match ex tm x with
  | .l6 vs=>f2 (yh vs i) λ v=>K v M
  | _=>False
 | .len x=>match ex tm x with
  | .sl _ es=>AP es λ n=>K (.int .i64 (n:Int)) M
  | .nil=>K (.int .i64 0) M
  | .row _ _ _ _ n=>K (.int .i64 (n:Int)) M
  | _=>False
 | .mm mx xs=>match QM tm xs with
  | .int k a::r=>UT mx k (λ v=>K v M) a r
  | _=>False
 | .app s z bytes x y=>bif Nat.ble 800000 s then eP tm M s z bytes x y K else (
  match SF M (ex tm y) with
  | some (ky,some (k2,z2,n2))=>match ex tm x with
   | .row key 0 z' off len=>bif Nat.beq off 0 then bif Nat.beq z' 1 then bif Nat.beq z 1 then bif Nat.beq key k2 then False else bif Nat.beq key ky then False else bif Nat.beq k2 ky then False else (match c8 M k2 with
    | some (_,.rw z3 es)=>bif Nat.beq z2 z3 then (match c8 M key with
     | some (s',.mx rows)=>fM (q5 key (q5 k2 (q5 ky M))) λ M'=>AM (n2=es.length) (DU rows len (some (z2,es)) bytes λ s9 n=>FP s tm M λ k=>K (.row k 0 z 0 n) ((k,s',.mx s9)::M'))
     | _=>False) else False
    | _=>False) else False else False else False
   | .nil=>bif ES s then bif Nat.beq z 1 then (match c8 M k2 with
    | some (_,.rw z3 es)=>bif Nat.beq z2 z3 then fM (q5 k2 M) λ M'=>AM (n2=es.length/\bytes<=140737488355328) (FP s tm M λ k=>K (.row k 0 z 0 1) ((k,s,.mx [some (z2,es)])::M')) else False
    | _=>False) else False else False
   | _=>False
  | some (ky,none)=>match ex tm x with
   | .row key 0 z' off len=>bif Nat.beq off 0 then bif Nat.beq z' 1 then bif Nat.beq z 1 then bif Nat.beq key ky then False else (match c8 M key with
     | some (s',.mx rows)=>fM (q5 key M) λ M'=>DU rows len none bytes λ s9 n=>FP s tm M λ k=>K (.row k 0 z 0 n) ((k,s',.mx s9)::M')
     | _=>False) else False else False else False
   | .nil=>bif ES s then bif Nat.beq z 1 then AM (bytes<=140737488355328) (FP s tm M λ k=>K (.row k 0 z 0 1) ((k,s,.mx [none])::M)) else False else False
   | _=>False
  | none=>bC M (ex tm y) λ ys=>match ex tm x with
   | .row key 0 z' off len=>bif Nat.beq off 0 then bif Nat.beq z' z then (match c8 M key with
    | some (s',.rw ek es)=>bif Nat.beq ek z then fM (q5 key M) λ M'=>(B2 es len ys z bytes λ es' n=>FP s tm M λ k=>K (.row k 0 z 0 n) ((k,s',.rw z es')::M')) else False
    | _=>False) else False else False
   | .row key (i+1) z' off len=>bif Nat.beq off 0 then bif Nat.beq z' z then (match c8 M key with
    | some (sk,.mx rows)=>fM (q5 key M) λ M'=>BO rows i λ ek es=>bif Nat.beq ek z then (B2 es len ys z bytes λ es' n => ∀ s' v,FP s tm M λ k=>K (.row k 0 z 0 n) ((k,s',.rw z es')::(key,sk,.hx i v (rows.set i none))::M')) else False
    | _=>False) else False else False
   | .nil=>bif ES s then CX ys z bytes λ es n=>FP s tm M λ k=>K (.row k 0 z 0 n) ((k,s,.rw z es)::M) else False
   | _=>False)
 | .call f xs=>ZK tm M c7 xs λ vs=>AB L f vs λ r=>K r M
 | .e9 f xs=>WM tm xs λ vs=>A7 L f vs tm M K
 | .u9 s f xs=>bif ES s then lL tm M c7 xs λ vs=>DW L f vs λ z es n=>FP s tm M λ k=>K (.row k 0 z 0 n) ((k,s,.rw z es)::M) else False
 | .ry ne x=>match ex tm x with
  | .nil=>fB (xor true ne) λ c=>K (.bool c) M
  | .da (.bool b)=>fB (xor b ne) λ c=>K (.bool c) M
  | .sl _ es=>AM (es≠[]) (fB (xor false ne) λ c=>K (.bool c) M)
  | .row _ _ _ _ n=>AM (0<n) (fB (xor false ne) λ c=>K (.bool c) M)
  | _=>False
 | .bad=>False
 | .cq s f xs=>WM tm xs λ vs=>match vs with
  | .ptr key 0 0 0::rest=>bif bQ rest then Rg L s f key rest M K else False
  | _=>False
 | .gn tb x=>match ex tm x with
  | .int _ n=>R3 tb n λ v=>K (.int .u8 v) M
  | _=>False
 | .qa p f xs=>kC tm xs λ cs=>K (.fn (p&&cs.isEmpty) f (L.num f) cs) M
 | .n8 x xs=>match ex tm x with
  | .fn true f g []=>AM (g=L.num f) (ZK tm M [] xs λ vs=>AB L f vs λ r=>K r M)
  | .fn true f g (c::cs)=>AM (g=L.num f) (O4 true M [] (.agg (c::cs)) λ v=>ZK tm M [] xs λ vs=>AB L f (v::vs) λ r=>K r M)
  | .fn false f g cs=>bif Y3 cs then AM (g=L.num f) (WM tm xs λ vs=>fL (vs++cs) λ vs=>A7 L f vs tm M K) else False
  | _=>False
def Db (key:Nat):Tm->Tm
 | []=>[]
 | (j,v)::r=>bif QH key v then (j,.any)::Db key r else (j,v)::Db key r
def xk (v:AV) (tm:Tm) (K:Tm->Prop):Prop:=match v with
 | .row key (_+1) _ _ _=>fT (Db key tm) K
 | _=>K tm
noncomputable def XI (L:Lib) (o:AI) (ih:(Tm->Mem->Prop)->Tm->Mem->Prop) (K:Tm->Mem->Prop) (tm:Tm) (M:Mem):Prop:=match o with
 | ⟨some d,.app s z b x y,none,c7⟩=>XE L tm M c7 (λ v M=>xk (ex tm x) tm λ tm=>ih K ((d,v)::tm) M) (.app s z b x y)
 | ⟨some d,op,none,c7⟩=>XE L tm M c7 (λ v M=>ih K ((d,v)::tm) M) op
 | ⟨none,op,none,c7⟩=>XE L tm M c7 (λ_ M=>ih K tm M) op
 | ⟨dst,op,some (g,w),c7⟩=>match tg tm g with
  | .bool b=>fB (b == w) λ c=>match c,dst with
   | true,some d=>XE L tm M c7 (λ v M=>ih K ((d,v)::tm) M) op
   | true,none=>XE L tm M c7 (λ_ M=>ih K tm M) op
   | false,some d=>ih K ((d,.l6 [])::tm) M
   | false,none=>ih K tm M
  | .l6 []=>match dst with
   | some d=>ih K ((d,.l6 [])::tm) M
   | none=>ih K tm M
  | _=>False
noncomputable def XO (L:Lib) (l:List AI):(Tm->Mem->Prop)->Tm->Mem->Prop :=
 List.rec (motive:=λ_=>(Tm->Mem->Prop)->Tm->Mem->Prop) (λ K tm M=>K tm M) (λ o _ ih K tm M=>XI L o ih K tm M) l
noncomputable def XS (L:Lib) (Q:Tm->Mem->Prop) (ih:List It->Tm->Mem->Prop) (k:List It) (tm:Tm) (M:Mem):Prop:=match k with
 | []=>Q tm M
 | it::k=>match it with
  | .e7 _=>ih k tm M
  | .kf ts ss=>fN (mask 0 ts) λ m=>fT (vn m tm) λ tm=>match ss with
   | []=>ih k tm M
   | _::_=>False
  | .lp c=>AA L (.lp c::k) tm M Q
  | .code c=>match c with
   | .skip=>ih k tm M
   | .ops l _=>XO L l (λ tm M=>ih k tm M) tm M
   | .dr c ts ss=>ih (.code c :: .kf ts ss::k) tm M
   | .scope c=>ih (.code c::k) tm M
   | .seq a b=>ih (.code a :: .code b::k) tm M
   | .cond x a b=>match ex tm x with
    | .bool b'=>fB b' λ c=>match c with
     | true=>ih (.code a::k) tm M
     | false=>ih (.code b::k) tm M
    | _=>False
   | .block id c=>ih (.code c :: .e7 id::k) tm M
   | .loop c=>AA L (.lp c::k) tm M Q
   | .exit id=>match DC id k with
    | some k'=>ih k' tm M
    | none=>False
   | .ret=>Q tm M
noncomputable def XK (L:Lib) (Q:Tm->Mem->Prop) (n:Nat):List It->Tm->Mem->Prop :=
 Nat.rec (motive:=λ_=>List It->Tm->Mem->Prop) (λ k tm M=>AA L k tm M Q) (λ_ ih k tm M=>XS L Q ih k tm M) n
def VC (tm:Tm) (M:Mem) (r:IO) (K:AV->Prop):Prop:=match r with
 | .tmp t=>f2 (tg tm t) K
 | .cell t agg n=>match tg tm t with
  | .ptr key 0 i j=>match c8 M key with
   | some (_,.bx cs)=>bif Nat.beq i 0 then (match part cs j n with
    | some ds=>fL ds λ ds=>qy agg ds K
    | none=>False) else False
   | _=>False
  | _=>False
noncomputable def cS (tm:Tm) (M:Mem) (l:List IO):(List AV->Prop)->Prop :=
 List.rec (motive:=λ_=>(List AV->Prop)->Prop) (λ K=>K []) (λ x _ ih K=>VC tm M x λ v=>ih λ vs=>K (v::vs)) l
noncomputable def lI (q:Bool) (M:Mem) (l:List AV):(List AV->Prop)->Prop :=
 List.rec (motive:=λ_=>(List AV->Prop)->Prop) (λ K=>K []) (λ x _ ih K=>O4 q M [] x λ v=>ih λ vs=>K (v::vs)) l
def Qa (vs:List AV) (K:AV->Prop):Prop:=match vs with
 | [v]=>K v
 | vs=>K (.l6 vs)
def AJ (a r:AV):Prop:=a=r/\A1 r
noncomputable def OA (fn:AFn) (r:AV) (tm:Tm) (M:Mem):Prop:=cS tm M fn.res λ vs=>lI false M vs λ vs=>Qa vs λ v=>AJ v r
end Go.e8
