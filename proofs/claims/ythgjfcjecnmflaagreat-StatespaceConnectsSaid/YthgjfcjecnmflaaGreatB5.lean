/-
  Functions: what the abstract machine says of a call, the model does.
-/
import Derived.Test.YthgjfcjecnmflaaGreatB4
import Derived.Test.YthgjfcjecnmflaaGreatB1
import Derived.IntWalk
set_option linter.unusedSimpArgs false
set_option linter.unusedVariables false
set_option linter.unnecessarySimpa false
namespace Go.e9
open Go.RowKit
section
variable {P:Program} {num:Nat->Nat} {L:Lib}
def ProgOK (P : Program) (num : Nat → Nat) (L : Lib) : Prop := (∀ f fa, L f = some fa → ∃ fn, P.funcs[num f]? = some fn ∧ okFn P num fn fa = true ∧ (fn.name == "runtime.NumGoroutine") = false) ∧ L.num = num
theorem mG : ∀ (args:List AV) (k i:Nat),g6 (CR k args) i=if k<=i then (match args[i-k]? with|some v=>v|none => .any) else .any
 | [],k,i=>by simp [CR,g6]
 | v::r,k,i=>by
  simp only[CR,g6];by_cases h:i=k
  ·subst h;simp
  ·rw[if_neg h,mG r (k+1) i]
   by_cases h2:k<=i
   ·rw[if_pos h2,if_pos (by omega)]
    have:i-k=(i-(k+1))+1:=by omega
    rw[this];simp
   ·rw[if_neg h2,if_neg (by omega)]
section
variable {B:Nat} {S:Nat->Prop} {w0:World} {m0:M} {N:Nat}
def XZ (tmps:Array Value):ResultVar->Sem Value
 | .tmp t=>pure (tmps.getD t undef)
 | .cell x t=>do loadVar t (<-asAddr (tmps.getD x undef))
theorem wP {m:M} {x v:AV} {u:Value} (h:H8 x=some v) (u7:CV B S m x u):CA B S m v u:=by
 cases u7 with
 | any=>simp [H8]at h
 | j4=>simp [H8]at h
 | ca hc =>
  have:x=v:=by
   cases hc with
   | one hc=>cases hc with
    | rd hr=>cases hr<;>simpa [H8] using h
    | _=>simpa [H8] using h
   | fn=>simpa [H8] using h
   | po=>simpa [H8] using h
   | agg=>simpa [H8] using h
  subst this;exact hc
theorem cQ {m:M} {a:Act} {st:St} (hf:FL B S w0 m0 N (g6 st.tm) m a) (k7:m.own=st.own) : ∀ {rv:List ResultVar} {ra:List IV} {vs:List AV},LD P rv ra=true->ra.mapM (E6 st)=some vs ->
  ∃ us:List Value,(rv.mapM (XZ a.tmps)).run P m.w = .ok us m.w/\vs.length=us.length /\ ∀ (j:Nat) (c:AV) (v:Value),vs[j]? = some c->us[j]? = some v->CA B S m c v
 | [],[],vs,_,h=>by
  simp at h;subst h;exact ⟨[],by simp,rfl,λ j c v hc=>by simp at hc⟩
 | .tmp t::r,.tmp t'::l,vs,j8,h=>by
  simp only[LD,Bool.and_eq_true,beq_iff_eq]at j8;obtain ⟨rfl,j8⟩:=j8;simp only[List.mapM_cons,Option.bind_eq_bind,Option.pure_def]at h;cases hv:E6 st (.tmp t) with
  | none=>simp [hv]at h
  | some v =>
   cases hr:l.mapM (E6 st) with
   | none=>simp [hv,hr]at h
   | some vr =>
    simp [hv,hr]at h;subst h;obtain ⟨us,h1,h2,h3⟩:=cQ hf k7 j8 hr;have u7:=hf.tm t;have nz:CA B S m v (a.tmps.getD t undef):=wP hv u7;refine ⟨a.tmps.getD t undef::us,?_,by simp [h2],λ j c u hc hu => ?_⟩
    ·simp only[List.mapM_cons,Sem.run_bind,XZ,Sem.run_pure,Result.andThen_ok,h1]
    ·cases j with
     | zero =>
      obtain rfl:v=c:=by simpa using hc
      obtain rfl:a.tmps.getD t undef=u:=Option.some.inj hu;exact nz
     | succ j=>exact h3 j c u (by simpa using hc) (by simpa using hu)
 | .cell x t::r,.cell x' agg n::l,vs,j8,h=>by
  simp only[LD,Bool.and_eq_true,beq_iff_eq]at j8;obtain ⟨⟨⟨rfl,fv⟩,hn⟩,j8⟩:=j8;simp only[List.mapM_cons,Option.bind_eq_bind,Option.pure_def]at h;cases hv:E6 st (.cell x agg n) with
  | none=>simp [hv]at h
  | some v =>
   cases hr:l.mapM (E6 st) with
   | none=>simp [hv,hr]at h
   | some vr =>
    simp [hv,hr]at h;subst h;obtain ⟨us,h1,h2,h3⟩:=cQ hf k7 j8 hr;have u7:=hf.tm x;simp only[E6]at hv;split at hv
    ·rename_i s u i j hx
     rw[hx]at u7;split at hv
     ·rename_i cs iq
      rw[<-k7]at iq;obtain ⟨ad,bf,ht,hb⟩:=TS u7;obtain ⟨b,g,arr,e,o4,hg,ax,pd,j6,fe⟩:=oY hf.mem iq;obtain ⟨Ym,jj⟩:=XP hv j6;have Zh:=cS (P:=P) t agg n (Y1 (by simpa using fv)) (by
       cases agg
       ·simpa using hn
       ·exact N8 (by simpa using hn)) ad ax pd m.w (λ q u' hq=>by
       have l7:q<ax.length:=(zS hq).1;obtain ⟨wy,iu⟩:=hg (by omega);obtain ⟨g',df,rfl⟩:=hb b o4;obtain rfl:g=g':=by rw[wy]at df;simpa using df
       rw[G5,WB iu];exact fe q u' hq)
      have Fk:(XZ a.tmps (.cell x t)).run P m.w = .ok (if agg then .agg ax.toArray else ax.getD 0 undef) m.w:=by
       show (do loadVar t (<-asAddr (a.tmps.getD x undef)):Sem Value).run P m.w=_;rw[bf];simpa [asAddr,Instr.loadAt,Instr.sureAddr] using Zh
      have nz:CA B S m v (if agg then .agg ax.toArray else ax.getD 0 undef):=by
       unfold JY at hv;cases agg with
       | true =>
        simp only[if_true,Option.some.injEq]at hv;subst hv;exact .agg cs ax j6
       | false =>
        simp only[Bool.false_eq_true,if_false]at hv ⊢;split at hv
        ·rename_i c
         simp only[Option.some.injEq]at hv;subst hv;obtain ⟨u',jl,y7⟩:=RZ j6 (j:=0) (c:=c) rfl;simp only[List.getD,jl,Option.getD_some];exact .one y7
        ·cases hv
      refine ⟨(if agg then .agg ax.toArray else ax.getD 0 undef)::us,?_,by simp [h2],λ j' c u' hc hu => ?_⟩
      ·rw[List.mapM_cons,Sem.run_bind,Fk,Result.andThen_ok,Sem.run_bind,h1,Result.andThen_ok]
       rfl
      ·cases j' with
       | zero =>
        obtain rfl:v=c:=by simpa using hc
        obtain rfl:=Option.some.inj hu;exact nz
       | succ j'=>exact h3 j' c u' (by simpa using hc) (by simpa using hu)
     ·cases hv
    ·cases hv
 | [],_::_,_,j8,_=>by simp [LD]at j8
 | .tmp _::_,[],_,j8,_=>by simp [LD]at j8
 | .cell _ _::_,[],_,j8,_=>by simp [LD]at j8
 | .tmp _::_,.cell _ _ _::_,_,j8,_=>by simp [LD]at j8
 | .cell _ _::_,.tmp _::_,_,j8,_=>by simp [LD]at j8
end
theorem fZ (hP:ProgOK P num L) {f:Nat} {fa:AFn} (hL:L f=some fa) (us:Array Value) (w:World):(callFunc (num f) us).run P w = .ok (.enter (num f) us) w:=by
 obtain ⟨fn,h1,h2,h3⟩:=hP.1 f fa hL;have hb:fn.body.isNone=false:=by
  simp only[okFn,Bool.and_eq_true]at h2;cases Yf:fn.body with
  | none=>rw[Yf]at h2;simp at h2
  | some c=>rfl
 unfold callFunc;simp only[Sem.run_bind,run_program,Result.andThen_ok,h1,h3,hb,Bool.false_eq_true,if_false,Sem.run_pure]
theorem mH (hP:ProgOK P num L) {n:Nat} (hC:GS P num (C9 L n)) {f:Nat} {vs:List AV} {own:AH} {r:AV} {l8:AH} (h:DL L (n+1) f vs own=some (r,l8)) (B:Nat) (S:Nat->Prop) (w0:World) (m:M) (us:List Value) (k7:m.own=own) (hm:BR B S w0 m) (hl:vs.length=us.length)
  (u7 : ∀ (j:Nat) (c:AV) (v:Value),vs[j]? = some c->us[j]? = some v->CV B S m c v) :
  Calls P (num f) us.toArray m.w λ e w' => ∃ u m',e = .returned u/\m'.w=w'/\m'.own=l8/\BR B S w0 m'/\DI B S m m'/\CV B S m' r u:=by
 rw[TW]at h;cases hL:L f with
 | none=>simp [hL]at h
 | some fa =>
  simp only[hL]at h;split at h
  ·rename_i Ba
   split at h
   ·rename_i st q6
    split at h
    ·rename_i Kj jk
     simp only[Option.some.injEq,Prod.mk.injEq]at h;obtain ⟨rfl,rfl⟩:=h;obtain ⟨fn,h1,h2,h3⟩:=hP.1 f fa hL;simp only[okFn,Bool.and_eq_true,beq_iff_eq,decide_eq_true_eq]at h2;obtain ⟨⟨⟨h4,h5⟩,h6⟩,h7⟩:=h2;split at h7
     ·rename_i c hc
      intro cs;have wv:Frame.enter P (num f) us.toArray .normal=({ (default:Frame) with fn:=num f,kind := .normal }:Frame).at { tmps:=us.toArray++Array.replicate (fn.ntmps-us.toArray.size) undef,defers:=[] } [.code c]:=by
       simp [Frame.enter,Frame.at,h1,hc]
      have v5:us.length=fa.af:=by rw[<-hl];exact Ba
      have Ys:FL B S w0 m fn.ntmps (g6 (CR 0 vs)) m { tmps:=us.toArray++Array.replicate (fn.ntmps-us.toArray.size) undef,defers:=[] }:=by
       refine ⟨hm,DI.refl m,λ i => ?_,by simp;omega,rfl⟩;rw[mG];simp only[Nat.zero_le,if_true,Nat.sub_zero];cases Ji:vs[i]? with
       | none=>exact .any _
       | some v =>
        have hi:i<us.length:=by rw[<-hl];exact (zS Ji).1
        have o4:(us.toArray++Array.replicate (fn.ntmps-us.toArray.size) undef).getD i undef=us[i]:=by
         rw[Array.getD_eq_getD_getElem?,Array.getElem?_append_left (by simpa using hi)];simp [hi]
        simp only[o4];exact u7 i v us[i] Ji (zE hi)
      obtain ⟨a',m',m9,xj,iw,kf⟩:=Sj (m0:=m) hC { (default:Frame) with fn:=num f,kind := .normal } cs n [.code fa.body] ⟨CR 0 vs,own⟩ st q6 [.code c] (.code h7 .nil) m _ k7 Ys;obtain ⟨ru,hu1,yy,Jg⟩:=cQ (P:=P) kf iw h6 jk;have te:(results fn a'.tmps).run P m'.w = .ok (if h:ru.length=1 then ru[0] else .tuple ru.toArray) m'.w:=by
       have hr:results fn a'.tmps=(do let vs <-fn.results.mapM (XZ a'.tmps);pure (if h:vs.size=1 then vs[0] else .tuple vs)):=rfl;rw[hr,Sem.run_bind,Array.mapM_eq_mapM_toList];simp [hu1]
      refine ⟨.returned (if h:ru.length=1 then ru[0] else .tuple ru.toArray),m'.w,_,⟨_,m',rfl,rfl,iw,kf.mem,kf.ext,?_⟩,by rw[wv];exact xj,rfl,rfl,kf.defers,rfl,fn,h1,te⟩;unfold HN;split
      ·rename_i v
       have lh:ru.length=1:=by rw[<-yy];rfl
       rw[dif_pos lh];exact .ca (Jg 0 v ru[0] rfl (zE (by omega)))
      ·rename_i m8
       have lh : ¬ ru.length=1:=λ e=>by
        rw[<-yy]at e;cases Kj with
        | nil=>simp at e
        | cons q qs=>cases qs with
         | nil=>exact m8 q rfl
         | cons=>simp at e
       rw[dif_neg lh];exact .j4 Kj ru yy Jg
     ·cases h7
    ·cases h
   ·cases h
  ·cases h
theorem Pv (S:Nat->Prop) (w:World):BR w.heap.size S w ⟨λ_ _=>none,AH.emp,w⟩ :=
 ⟨Below.refl _ _,Nat.le_refl _,λ_ _ _=>rfl,λ s t b h=>by simp [AH.get,AH.emp]at h,λ s t s' t' b b' g h=>by simp [AH.get,AH.emp]at h⟩
theorem jI {n f:Nat} {vs:List AV} {own:AH} {r:AV × AH} (h:DL L n f vs own=some r) : ∃ fa,L f=some fa:=by
 cases n with
 | zero=>simp [DL]at h
 | succ n =>
  rw[TW]at h;cases hL:L f with
  | none=>simp [hL]at h
  | some fa=>exact ⟨fa,rfl⟩
theorem cD {n f:Nat} {vs:List AV} {r:AV} (h:H3 (λ vs=>DL L n f vs AH.emp) vs=some r) : ∃ r0 o,DL L n f vs AH.emp=some (r0,o)/\PT o false r0=some r/\A6 r:=by
 unfold H3 at h;cases he:DL L n f vs AH.emp with
 | none=>simp [he]at h
 | some x =>
  obtain ⟨r0,o⟩:=x;simp only[he]at h;split at h
  ·rename_i r' hr
   split at h
   ·rename_i hc
    simp only[Option.some.injEq]at h;subst h;exact ⟨r0,o,rfl,hr,hc⟩
   ·cases h
  ·cases h
theorem ZX {n f:Nat} {vs:List AV} {r:AV} (h:GX L n f vs=some r) : ∃ ax,∃ x,DL L n f ax AH.emp=some x:=by
 unfold GX JZ at h;split at h
 ·split at h
  ·rename_i r1 r2 h1 h2
   obtain ⟨r0,o,h3,_⟩:=cD h1;exact ⟨_,_,h3⟩
  ·cases h
 ·obtain ⟨r0,o,h3,_⟩:=cD h
  exact ⟨_,_,h3⟩
theorem cE (hP:ProgOK P num L) {n:Nat} (ih:GS P num (C9 L n)) {f:Nat} {vs:List AV} {r:AV} (h:H3 (λ vs=>DL L (n+1) f vs AH.emp) vs=some r) (S:Nat->Prop) (w:World) (us:List Value) (hl:vs.length=us.length)
  (nz : ∀ (j:Nat) (c:AV) (v:Value),vs[j]? = some c->us[j]? = some v->CA w.heap.size S ⟨λ_ _=>none,AH.emp,w⟩ c v) :
  Calls P (num f) us.toArray w λ e w' => ∃ u,e = .returned u/\Below w.heap.size w w'/\CV w.heap.size S ⟨λ_ _=>none,AH.emp,w'⟩ r u/\A6 r:=by
 obtain ⟨r0,o,h1,h2,h3⟩:=cD (L:=L) h;refine Calls.mono (mH hP ih h1 w.heap.size S w ⟨λ_ _=>none,AH.emp,w⟩ us rfl (Pv S w) hl λ j c v hc hv => .ca (nz j c v hc hv)) λ e w' ⟨u,m',he,hw,k7,js,_,u7⟩ => ?_
 subst hw;refine ⟨u,he,js.below,?_,h3⟩;refine DV.cv (m:=⟨λ_ _=>none,AH.emp,m'.w⟩) (Vx js false (safe w.heap.size S ⟨λ_ _=>none,AH.emp,m'.w⟩) (λ l b hb hs => ?_) (λ s t g gx hg => ?_) (by rw[k7];exact h2) u7)
 ·rcases hs with h|⟨h,_⟩|h
  ·exact .inl h
  ·exact .inr (.inl ⟨h,λ s t gx=>by simp [AH.get,AH.emp]at gx⟩)
  ·exact .inr (.inr h)
 ·exact .inr (.inl ⟨(js.ge gx hg).1,λ s t gx=>by simp [AH.get,AH.emp]at gx⟩)
theorem wR (hP:ProgOK P num L) : ∀ n,GS P num (C9 L n):=by
 intro n;induction n with
 | zero =>
  exact ⟨λ f vs r h=>by obtain ⟨ax,x,h1⟩:=ZX (L:=L) (n:=0) (f:=f) (vs:=vs) (r:=r) h;simp [DL]at h1,λ f vs own r h=>by change DL L 0 f vs own=some r at h;simp [DL]at h,
   λ f vs r h=>by obtain ⟨ax,x,h1⟩:=ZX (L:=L) (n:=0) (f:=f) (vs:=vs) (r:=r) h;simp [DL]at h1,λ f vs own r l8 h=>by change DL L 0 f vs own=_ at h;simp [DL]at h,hP.2⟩
 | succ n ih =>
  refine ⟨λ f vs r h us w => ?_,λ f vs own r h us w => ?_,λ f vs r h S w us hl nz => ?_,λ f vs own r l8 h B S w0 m us k7 hm hl u7=>mH hP ih h B S w0 m us k7 hm hl u7,hP.2⟩
  ·obtain ⟨ax,x,h1⟩:=ZX (L:=L) h
   obtain ⟨fa,hL⟩:=jI h1;exact fZ hP hL us w
  ·obtain ⟨fa,hL⟩:=jI (L:=L) h
   exact fZ hP hL us w
  ·have h:JZ (L.mj f) (λ vs=>DL L (n+1) f vs AH.emp) vs=some r:=h
   unfold JZ at h;split at h
   ·rename_i q ax _ _
    split at h
    ·rename_i r1 r2 h1 h2
     split at h
     ·rename_i e
      subst e;obtain rfl:=Option.some.inj h;cases us with
      | nil=>simp at hl
      | cons u us =>
       have h0:=nz 0 _ u rfl rfl;have hu : ∃ a cap,u = .slice a 0 cap:=by
        cases h0 with
        | one h0=>cases h0 with
         | rd h0=>cases h0 with
          | gn l a cap=>exact ⟨a,cap,rfl⟩
          | sl l es b o a8 cap u m8=>exact absurd rfl m8
       obtain ⟨a,cap,rfl⟩:=hu;have key : ∀ b,a.isNone=b -> ∀ (j:Nat) (c:AV) (v:Value),(AV.bh (.bool b)::ax)[j]? = some c->(Value.slice a 0 cap::us)[j]? = some v->CA w.heap.size S ⟨λ_ _=>none,AH.emp,w⟩ c v:=λ b hb j c v hc hv=>by
        cases j with
        | zero =>
         obtain rfl:=Option.some.inj hc;obtain rfl:=Option.some.inj hv;exact .one (.rd (.emp b a cap hb))
        | succ j=>exact nz (j+1) c v hc hv
       cases hb:a.isNone with
       | true=>exact cE hP ih h1 S w _ (by simpa using hl) (key true hb)
       | false=>exact cE hP ih h2 S w _ (by simpa using hl) (key false hb)
     ·cases h
    ·cases h
   ·exact cE hP ih h S w us hl nz
end
end Go.e9
namespace Go.e9
abbrev OkF (P : Program) (num : Nat → Nat) (p : Nat × AFn) : Prop := ∃ fn, P.funcs[num p.1]? = some fn ∧ okFn P num fn p.2 = true ∧ (fn.name == "runtime.NumGoroutine") = false
theorem Ss {P:Program} {num:Nat->Nat} (l:List (Nat × AFn)) (h : ∀ p∈l,OkF P num p):ProgOK P num ⟨λ f=>l.lookup f,num⟩:=by
 refine ⟨?_,rfl⟩;intro f fa hf;have hm:(f,fa)∈l:=by
  clear h;change l.lookup f=some fa at hf;induction l with
  | nil=>simp at hf
  | cons x r ih =>
   obtain ⟨k,v⟩:=x;rw[List.lookup_cons]at hf;cases hk:(f == k) with
   | true =>
    rw[hk]at hf;have:f=k:=by simpa using hk
    subst this;simp at hf;simp [hf]
   | false =>
    rw[hk]at hf;exact List.mem_cons_of_mem _ (ih hf)
 exact h (f,fa) hm
end Go.e9
namespace Go.e9
section
variable {L:Lib}
def Cl.le (C C':Cl):Prop:=(∀ f vs r,C.pure f vs=some r->C'.pure f vs=some r)/\(∀ f vs o r,C.fi f vs o=some r->C'.fi f vs o=some r)/\C.num=C'.num
theorem fK {x y:Option (AV × AH)} {r:Nat × List (List AV)} (h : ∀ q,x=some q->y=some q) (hr:NT x=some r):NT y=some r:=by
 cases x with
 | none=>simp [NT]at hr
 | some q=>rw[h q rfl];exact hr
theorem Ky {C C':Cl} (h:C.le C') {c5:List Nat} {ρ:AP->AV} {own:AH} {op:DT} {E:B7} (he:e7 C c5 ρ own op=some E):e7 C' c5 ρ own op=some E:=by
 cases op with
 | call f xs =>
  simp only[e7]at he ⊢;split at he
  ·rename_i vs fe
   simp only[Option.map_eq_some_iff]at he ⊢;obtain ⟨r,hr,rfl⟩:=he;exact ⟨r,h.1 f vs r hr,rfl⟩
  ·cases he
 | e8 f xs =>
  simp only[e7,Option.map_eq_some_iff]at he ⊢;obtain ⟨r,hr,rfl⟩:=he;exact ⟨r,h.2.1 f _ own r hr,rfl⟩
 | mh p f xs=>simp only[e7]at he ⊢;rw[<-h.2.2];exact he
 | bg s f xs =>
  simp only[e7,Option.map_eq_some_iff]at he ⊢;obtain ⟨p,hp,rfl⟩:=he;exact ⟨p,WA.2 λ o ho=>h.2.1 f _ o _ (WA.1 hp o ho),rfl⟩
 | m6 s f xs =>
  simp only[e7]at he ⊢;split at he
  ·rename_i vs fe
   simp only[Option.map_eq_some_iff]at he ⊢;obtain ⟨r,hr,rfl⟩:=he;exact ⟨r,fK (h.2.1 f vs AH.emp) hr,rfl⟩
  ·cases he
 | l9 f xs =>
  simp only[e7]at he ⊢;split at he
  ·rename_i hq
   rw[if_pos hq];split at he
   ·rename_i r hr
    rw[h.1 _ _ r hr];exact he
   ·cases he
  ·cases he
 | o0 x xs =>
  simp only[e7]at he ⊢;rw[<-h.2.2];split at he
  ·split at he
   ·rename_i hg
    rw[if_pos hg];split at he
    ·split at he
     ·rename_i vs fe
      simp only[Option.map_eq_some_iff]at he ⊢;obtain ⟨r,hr,rfl⟩:=he;exact ⟨r,h.1 _ vs r hr,rfl⟩
     ·cases he
    ·simp only[Option.map_eq_some_iff]at he ⊢
     obtain ⟨r,hr,rfl⟩:=he;exact ⟨r,h.2.1 _ _ own r hr,rfl⟩
    ·split at he
     ·rename_i vs fe
      simp only[Option.map_eq_some_iff]at he ⊢;obtain ⟨r,hr,rfl⟩:=he;exact ⟨r,h.1 _ vs r hr,rfl⟩
     ·cases he
   ·cases he
  ·cases he
 | _=>exact he
theorem Wf {C C':Cl} (h:C.le C') {o:AI} {st j9:St} (he:C1 C o st=some j9):C1 C' o st=some j9:=by
 unfold C1 at he ⊢;split at he
 ·simp only[Option.map_eq_some_iff]at he ⊢
  obtain ⟨E,h1,h2⟩:=he;exact ⟨E,Ky h h1,h2⟩
 ·exact he
 ·exact he
theorem OB {C C':Cl} (h:C.le C') : ∀ {l:List AI} {st j9:St},DE C l st=some j9->DE C' l st=some j9
 | [],st,j9,he=>he
 | o::r,st,j9,he=>by
  simp only[DE]at he ⊢;cases hs:C1 C o st with
  | none=>simp [hs]at he
  | some A8 =>
   rw[Wf h hs];simp only[hs]at he;exact OB h he
theorem N7 {C C':Cl} (h:C.le C') : ∀ {n n':Nat} {k:List It} {st j9:St},n<=n'->run C n k st=some j9->run C' n' k st=some j9:=by
 intro n;induction n with
 | zero=>intro n' k st j9 _ hr;simp [run]at hr
 | succ n ih =>
  intro n' k st j9 hn hr;obtain ⟨q,rfl⟩ : ∃ q,n'=q+1:=⟨n'-1,by omega⟩;have hq:n<=q:=by omega
  cases k with
  | nil=>exact hr
  | cons it k =>
   cases it with
   | e6 id=>simp only[run]at hr ⊢;exact ih hq hr
   | lf ts ss=>simp only[run]at hr ⊢;exact ih hq hr
   | lp c=>simp only[run]at hr ⊢;exact ih hq hr
   | code c =>
    cases c with
    | skip=>simp only[run]at hr ⊢;exact ih hq hr
    | ops l d =>
     simp only[run]at hr ⊢;cases hs:DE C l st with
     | none=>simp [hs]at hr
     | some A8 =>
      rw[OB h hs];simp only[hs]at hr;exact ih hq hr
    | dr c ts ss=>simp only[run]at hr ⊢;exact ih hq hr
    | scope c=>simp only[run]at hr ⊢;exact ih hq hr
    | seq a b=>simp only[run]at hr ⊢;exact ih hq hr
    | cond x a b =>
     simp only[run]at hr ⊢;split at hr
     ·exact ih hq hr
     ·exact ih hq hr
     ·cases hr
    | block id c=>simp only[run]at hr ⊢;exact ih hq hr
    | loop c=>simp only[run]at hr ⊢;exact ih hq hr
    | exit id =>
     simp only[run]at hr ⊢;split at hr
     ·exact ih hq hr
     ·cases hr
    | ret=>exact hr
theorem UW {I I':List AV->Option (AV × AH)} (hI : ∀ vs r,I vs=some r->I' vs=some r) {vs:List AV} {r:AV} (h:H3 I vs=some r):H3 I' vs=some r:=by
 unfold H3 at h ⊢;cases he:I vs with
 | none=>simp [he]at h
 | some x=>rw[hI vs _ he];simpa [he] using h
theorem Su {b:Bool} {I I':List AV->Option (AV × AH)} (hI : ∀ vs r,I vs=some r->I' vs=some r) {vs:List AV} {r:AV} (h:JZ b I vs=some r):JZ b I' vs=some r:=by
 unfold JZ at h ⊢;split at h
 ·split at h
  ·rename_i r1 r2 h1 h2
   rw[UW hI h1,UW hI h2];exact h
  ·cases h
 ·exact UW hI h
theorem jV : ∀ (n:Nat),(C9 L n).le (C9 L (n+1)):=by
 have fi : ∀ n,(∀ f vs o r,DL L n f vs o=some r->DL L (n+1) f vs o=some r) -> ∀ f vs r,GX L n f vs=some r->GX L (n+1) f vs=some r:=by
  intro n hI f vs r h;exact Su (λ vs r h=>hI f vs _ r h) h
 intro n;induction n with
 | zero =>
  have : ∀ f vs o r,DL L 0 f vs o=some r->DL L 1 f vs o=some r:=λ f vs o r h=>by simp [DL]at h
  exact ⟨fi 0 this,this,rfl⟩
 | succ n ih =>
  have : ∀ f vs o r,DL L (n+1) f vs o=some r->DL L (n+2) f vs o=some r:=λ f vs o r h=>by
   rw[TW]at h ⊢;cases hL:L f with
   | none=>simp [hL]at h
   | some fn =>
    simp only[hL]at h ⊢;split at h
    ·rename_i hp
     rw[if_pos hp];cases hr:run (C9 L n) n [.code fn.body] ⟨CR 0 vs,o⟩ with
     | none=>simp [hr]at h
     | some st =>
      rw[N7 ih (Nat.le_succ n) hr];simpa [hr] using h
    ·cases h
  exact ⟨fi (n+1) this,this,rfl⟩
theorem FN {n n':Nat} (h:n<=n'):(C9 L n).le (C9 L n'):=by
 induction h with
 | refl=>exact ⟨λ_ _ _ h=>h,λ_ _ _ _ h=>h,rfl⟩
 | step _ ih=>exact ⟨λ f vs r h=>(jV _).1 f vs r (ih.1 f vs r h),λ f vs o r h=>(jV _).2.1 f vs o r (ih.2.1 f vs o r h),rfl⟩
def Ev (L:Lib) (f:Nat) (vs:List AV) (r:AV):Prop := ∃ n,GX L n f vs=some r
def FQ (L:Lib) (f:Nat) (vs:List AV) (r:AV):Prop := ∃ n,H3 (λ vs=>DL L n f vs AH.emp) vs=some r
def GJ (L:Lib) (f:Nat) (vs:List AV) (o:AH) (r:AV) (o':AH):Prop := ∃ n,DL L n f vs o=some (r,o')
def FR (L:Lib) (f:Nat) (vs:List AV) (z:Nat) (es:List (List AV)):Prop := ∃ n,NT (DL L n f vs AH.emp)=some (z,es)
theorem Ev.vn {f:Nat} {vs:List AV} {r r':AV} (h:Ev L f vs r) (h':Ev L f vs r'):r=r':=by
 obtain ⟨n,hn⟩:=h;obtain ⟨n',nq⟩:=h';have h1:=(FN (L:=L) (Nat.le_max_left n n')).1 f vs r hn;have h2:=(FN (L:=L) (Nat.le_max_right n n')).1 f vs r' nq;rw[h1]at h2;exact Option.some.inj h2
theorem GJ.vn {f:Nat} {vs:List AV} {o:AH} {r r':AV} {o1 o2:AH} (h:GJ L f vs o r o1) (h':GJ L f vs o r' o2):r=r'/\o1=o2:=by
 obtain ⟨n,hn⟩:=h;obtain ⟨n',nq⟩:=h';have h1:=(FN (L:=L) (Nat.le_max_left n n')).2.1 f vs o _ hn;have h2:=(FN (L:=L) (Nat.le_max_right n n')).2.1 f vs o _ nq;rw[h1]at h2;simpa using h2
def AK (L:Lib) (k:List It) (st:St) (Q:St->Prop):Prop := ∃ n c j9,run (C9 L c) n k st=some j9/\Q j9
def AO (L:Lib) (l:List AI) (k:List It) (st:St) (Q:St->Prop):Prop := ∃ n c A8 j9,DE (C9 L c) l st=some A8/\run (C9 L c) n k A8=some j9/\Q j9
variable {k:List It} {st:St} {Q:St->Prop}
theorem JO {it:It} {k':List It} {A8:St} (h : ∀ (C:Cl) (n:Nat),run C (n+1) (it::k) st=run C n k' A8):AK L (it::k) st Q↔AK L k' A8 Q:=by
 constructor
 ·rintro ⟨n,c,j9,hr,hq⟩
  cases n with
  | zero=>simp [run]at hr
  | succ n=>exact ⟨n,c,j9,by rw[<-h];exact hr,hq⟩
 ·rintro ⟨n,c,j9,hr,hq⟩
  exact ⟨n+1,c,j9,by rw[h];exact hr,hq⟩
theorem sR:AK L [] st Q↔Q st:=by
 constructor
 ·rintro ⟨n,c,j9,hr,hq⟩
  cases n with
  | zero=>simp [run]at hr
  | succ n=>simp only[run,Option.some.injEq]at hr;exact hr ▸ hq
 ·exact λ h=>⟨1,0,st,rfl,h⟩
theorem sJ {id:Nat}:AK L (.e6 id::k) st Q↔AK L k st Q:=JO λ_ _=>rfl
theorem sN {ts ss:List Nat}:AK L (.lf ts ss::k) st Q↔AK L k ⟨z9 st.tm ts,st.own.drop ss⟩ Q:=JO λ_ _=>rfl
theorem dY {c:BF}:AK L (.lp c::k) st Q↔AK L (.code c :: .lp c::k) st Q:=JO λ_ _=>rfl
theorem sW:AK L (.code .skip::k) st Q↔AK L k st Q:=JO λ_ _=>rfl
theorem sM {c:BF} {ts ss:List Nat}:AK L (.code (.dr c ts ss)::k) st Q↔AK L (.code c :: .lf ts ss::k) st Q:=JO λ_ _=>rfl
theorem sU {c:BF}:AK L (.code (.scope c)::k) st Q↔AK L (.code c::k) st Q:=JO λ_ _=>rfl
theorem sV {a b:BF}:AK L (.code (.seq a b)::k) st Q↔AK L (.code a :: .code b::k) st Q:=JO λ_ _=>rfl
theorem sK {id:Nat} {c:BF}:AK L (.code (.block id c)::k) st Q↔AK L (.code c :: .e6 id::k) st Q:=JO λ_ _=>rfl
theorem sP {c:BF}:AK L (.code (.loop c)::k) st Q↔AK L (.code c :: .lp c::k) st Q:=JO λ_ _=>rfl
theorem sO {id:Nat} {k':List It} (h:FG id k=some k'):AK L (.code (.exit id)::k) st Q↔AK L k' st Q:=JO λ C n=>by simp [run,h]
theorem sT:AK L (.code .ret::k) st Q↔Q st:=by
 constructor
 ·rintro ⟨n,c,j9,hr,hq⟩
  cases n with
  | zero=>simp [run]at hr
  | succ n=>simp only[run,Option.some.injEq]at hr;exact hr ▸ hq
 ·exact λ h=>⟨1,0,st,rfl,h⟩
theorem sL {x:AP} {a b:BF} {t:Bool} (h:st.ev x = .bool t):AK L (.code (.cond x a b)::k) st Q↔if t=true then AK L (.code a::k) st Q else AK L (.code b::k) st Q:=by
 cases t
 ·simpa using JO (k' := .code b::k) (A8:=st) λ C n=>by simp [run,h]
 ·simpa using JO (k' := .code a::k) (A8:=st) λ C n=>by simp [run,h]
theorem sS {l:List AI} {d:Bool}:AK L (.code (.ops l d)::k) st Q↔AO L l k st Q:=by
 constructor
 ·rintro ⟨n,c,j9,hr,hq⟩
  cases n with
  | zero=>simp [run]at hr
  | succ n =>
   simp only[run]at hr;split at hr
   ·rename_i A8 hs
    exact ⟨n,c,A8,j9,hs,hr,hq⟩
   ·cases hr
 ·rintro ⟨n,c,A8,j9,hs,hr,hq⟩
  exact ⟨n+1,c,j9,by simp [run,hs,hr],hq⟩
theorem tK:AO L [] k st Q↔AK L k st Q:=by
 constructor
 ·rintro ⟨n,c,A8,j9,hs,hr,hq⟩
  simp only[DE,Option.some.injEq]at hs;exact ⟨n,c,j9,hs ▸ hr,hq⟩
 ·rintro ⟨n,c,j9,hr,hq⟩
  exact ⟨n,c,st,j9,rfl,hr,hq⟩
theorem tN {o:AI} {l:List AI} {A8:St} (h : ∀ C,C1 C o st=some A8):AO L (o::l) k st Q↔AO L l k A8 Q:=by
 constructor
 ·rintro ⟨n,c,BT,j9,hs,hr,hq⟩
  simp only[DE,h]at hs;exact ⟨n,c,BT,j9,hs,hr,hq⟩
 ·rintro ⟨n,c,BT,j9,hs,hr,hq⟩
  exact ⟨n,c,BT,j9,by simpa only[DE,h] using hs,hr,hq⟩
theorem tL {d:Option Nat} {op:DT} {g:Option (Nat × Bool)} {c5:List Nat} {l:List AI} (h:FH st g=some false):AO L (⟨d,op,g,c5⟩::l) k st Q↔AO L l k (st.dst d (.j4 [])) Q :=
 tN λ C=>by simp [C1,h]
theorem RY (c:Nat):(C9 L c).num=L.num:=rfl
theorem tM {d:Option Nat} {op:DT} {g:Option (Nat × Bool)} {c5:List Nat} {l:List AI} {E:B7} (h:FH st g=some true) (he : ∀ c,e7 (C9 L c) c5 st.ev st.own op=some E):AO L (⟨d,op,g,c5⟩::l) k st Q↔AO L l k (st.app d E) Q:=by
 have h : ∀ c,C1 (C9 L c) ⟨d,op,g,c5⟩ st=some (st.app d E):=λ c=>by simp [C1,h,he]
 constructor
 ·rintro ⟨n,c,BT,j9,hs,hr,hq⟩
  simp only[DE,h]at hs;exact ⟨n,c,BT,j9,hs,hr,hq⟩
 ·rintro ⟨n,c,BT,j9,hs,hr,hq⟩
  exact ⟨n,c,BT,j9,by simpa only[DE,h] using hs,hr,hq⟩
theorem sX {d:Option Nat} {f:Nat} {xs:List AP} {g:Option (Nat × Bool)} {c5:List Nat} {l:List AI} {vs:List AV} {r:AV} (h:FH st g=some true) (hv:(xs.map st.ev).mapM (C0 (st.own.m7 c5) true)=some vs) (hr:Ev L f vs r) :
  AO L (⟨d,.call f xs,g,c5⟩::l) k st Q↔AO L l k (st.dst d r) Q:=by
 have j7 : ∀ c r',GX L c f vs=some r'->C1 (C9 L c) ⟨d,.call f xs,g,c5⟩ st=some (st.dst d r'):=λ c r' hc=>by
  have w4:(C9 L c).pure f vs=some r':=hc;simp [C1,h,e7,hv,w4,St.app]
 constructor
 ·rintro ⟨n,c,BT,j9,hs,ep,hq⟩
  simp only[DE]at hs;cases hI:C1 (C9 L c) ⟨d,.call f xs,g,c5⟩ st with
  | none=>simp [hI]at hs
  | some A8 =>
   simp only[hI]at hs;cases hp:GX L c f vs with
   | none =>
    have w4:(C9 L c).pure f vs=none:=hp;simp [C1,h,e7,hv,w4]at hI
   | some r' =>
    obtain rfl:r'=r:=Ev.vn ⟨c,hp⟩ hr;rw[j7 c r' hp]at hI;obtain rfl:=Option.some.inj hI;exact ⟨n,c,BT,j9,hs,ep,hq⟩
 ·rintro ⟨n,c,BT,j9,hs,ep,hq⟩
  obtain ⟨c',w4⟩:=hr;have l1:=FN (L:=L) (Nat.le_max_left c c');have l2:=FN (L:=L) (Nat.le_max_right c c');refine ⟨n,max c c',BT,j9,?_,N7 l1 (Nat.le_refl n) ep,hq⟩;simp only[DE];rw[j7 (max c c') r (l2.1 f vs r w4)];exact OB l1 hs
theorem tE {d:Option Nat} {f:Nat} {x:AP} {xs:List AP} {g:Option (Nat × Bool)} {c5:List Nat} {l:List AI} {vs:List AV} {r:AV} (h:FH st g=some true) (hx:st.ev x = .fn true f (L.num f) []) (hv:(xs.map st.ev).mapM (C0 st.own true)=some vs) (hr:Ev L f vs r) :
  AO L (⟨d,.o0 x xs,g,c5⟩::l) k st Q↔AO L l k (st.dst d r) Q:=by
 have j7 : ∀ c r',GX L c f vs=some r'->C1 (C9 L c) ⟨d,.o0 x xs,g,c5⟩ st=some (st.dst d r'):=λ c r' hc=>by
  have w4:(C9 L c).pure f vs=some r':=hc;simp [C1,h,e7,hx,RY,hv,w4,St.app]
 constructor
 ·rintro ⟨n,c,BT,j9,hs,ep,hq⟩
  simp only[DE]at hs;cases hI:C1 (C9 L c) ⟨d,.o0 x xs,g,c5⟩ st with
  | none=>simp [hI]at hs
  | some A8 =>
   simp only[hI]at hs;cases hp:GX L c f vs with
   | none =>
    have w4:(C9 L c).pure f vs=none:=hp;simp [C1,h,e7,hx,RY,hv,w4]at hI
   | some r' =>
    obtain rfl:r'=r:=Ev.vn ⟨c,hp⟩ hr;rw[j7 c r' hp]at hI;obtain rfl:=Option.some.inj hI;exact ⟨n,c,BT,j9,hs,ep,hq⟩
 ·rintro ⟨n,c,BT,j9,hs,ep,hq⟩
  obtain ⟨c',w4⟩:=hr;have l1:=FN (L:=L) (Nat.le_max_left c c');have l2:=FN (L:=L) (Nat.le_max_right c c');refine ⟨n,max c c',BT,j9,?_,N7 l1 (Nat.le_refl n) ep,hq⟩;simp only[DE];rw[j7 (max c c') r (l2.1 f vs r w4)];exact OB l1 hs
theorem sY {d:Option Nat} {f:Nat} {w:AV} {cs:List AV} {x:AP} {xs:List AP} {g:Option (Nat × Bool)} {c5:List Nat} {l:List AI} {vs:List AV} {r:AV} (h:FH st g=some true) (hx:st.ev x = .fn true f (L.num f) (w::cs)) (hv:(AV.agg (w::cs)::xs.map st.ev).mapM (C0 st.own true)=some vs) (hr:Ev L f vs r) :
  AO L (⟨d,.o0 x xs,g,c5⟩::l) k st Q↔AO L l k (st.dst d r) Q:=by
 have j7 : ∀ c r',GX L c f vs=some r'->C1 (C9 L c) ⟨d,.o0 x xs,g,c5⟩ st=some (st.dst d r'):=λ c r' hc=>by
  have w4:(C9 L c).pure f vs=some r':=hc;simp [C1,h,e7,hx,RY,hv,w4,St.app]
 constructor
 ·rintro ⟨n,c,BT,j9,hs,ep,hq⟩
  simp only[DE]at hs;cases hI:C1 (C9 L c) ⟨d,.o0 x xs,g,c5⟩ st with
  | none=>simp [hI]at hs
  | some A8 =>
   simp only[hI]at hs;cases hp:GX L c f vs with
   | none =>
    have w4:(C9 L c).pure f vs=none:=hp;simp [C1,h,e7,hx,RY,hv,w4]at hI
   | some r' =>
    obtain rfl:r'=r:=Ev.vn ⟨c,hp⟩ hr;rw[j7 c r' hp]at hI;obtain rfl:=Option.some.inj hI;exact ⟨n,c,BT,j9,hs,ep,hq⟩
 ·rintro ⟨n,c,BT,j9,hs,ep,hq⟩
  obtain ⟨c',w4⟩:=hr;have l1:=FN (L:=L) (Nat.le_max_left c c');have l2:=FN (L:=L) (Nat.le_max_right c c');refine ⟨n,max c c',BT,j9,?_,N7 l1 (Nat.le_refl n) ep,hq⟩;simp only[DE];rw[j7 (max c c') r (l2.1 f vs r w4)];exact OB l1 hs
theorem tF {d:Option Nat} {f:Nat} {xs:List AP} {g:Option (Nat × Bool)} {c5:List Nat} {l:List AI} {r:AV} (h:FH st g=some true) (hq:(xs.map st.ev).all dq=true) (hr:Ev L f ((xs.map st.ev).map rq) r) (eg:JR r\/RM r) :
  AO L (⟨d,.l9 f xs,g,c5⟩::l) k st Q↔AO L l k (st.dst d (KO r)) Q:=by
 have j7 : ∀ c,GX L c f ((xs.map st.ev).map rq)=some r->C1 (C9 L c) ⟨d,.l9 f xs,g,c5⟩ st=some (st.dst d (KO r)):=λ c hc=>by
  have w4:(C9 L c).pure f ((xs.map st.ev).map rq)=some r:=hc;simp only[C1,h,e7];rw[if_pos hq,w4];simp only[if_pos eg,Option.map_some,St.app]
 constructor
 ·rintro ⟨n,c,BT,j9,hs,ep,yo⟩
  simp only[DE]at hs;cases hp:GX L c f ((xs.map st.ev).map rq) with
  | none =>
   have w4:(C9 L c).pure f ((xs.map st.ev).map rq)=none:=hp;simp only[C1,h,e7]at hs;rw[if_pos hq,w4]at hs;simp at hs
  | some r' =>
   obtain rfl:r'=r:=Ev.vn ⟨c,hp⟩ hr;rw[j7 c hp]at hs;exact ⟨n,c,BT,j9,hs,ep,yo⟩
 ·rintro ⟨n,c,BT,j9,hs,ep,yo⟩
  obtain ⟨c',w4⟩:=hr;have l1:=FN (L:=L) (Nat.le_max_left c c');have l2:=FN (L:=L) (Nat.le_max_right c c');refine ⟨n,max c c',BT,j9,?_,N7 l1 (Nat.le_refl n) ep,yo⟩;simp only[DE];rw[j7 (max c c') (l2.1 f _ r w4)];exact OB l1 hs
theorem tG {d:Option Nat} {s f:Nat} {xs:List AP} {g:Option (Nat × Bool)} {c5:List Nat} {l:List AI} {vs:List AV} {z:Nat} {es:List (List AV)} (h:FH st g=some true) (hv:(xs.map st.ev).mapM (OA (st.own.m7 c5) true)=some vs) (hr:FR L f vs z es)
  (ha:AO L l k (st.app d (.new s ⟨z,es⟩ (λ t => .row s t z 0 es.length))) Q):AO L (⟨d,.m6 s f xs,g,c5⟩::l) k st Q:=by
 obtain ⟨n,c,BT,j9,hs,ep,hq⟩:=ha;obtain ⟨c',w4⟩:=hr;have l1:=FN (L:=L) (Nat.le_max_left c c');have l2:=FN (L:=L) (Nat.le_max_right c c');have ow:NT ((C9 L (max c c')).fi f vs AH.emp)=some (z,es):=fK (l2.2.1 f vs AH.emp) w4;refine ⟨n,max c c',BT,j9,?_,N7 l1 (Nat.le_refl n) ep,hq⟩;simp only[DE];have:C1 (C9 L (max c c')) ⟨d,.m6 s f xs,g,c5⟩ st=some (st.app d (.new s ⟨z,es⟩ (λ t => .row s t z 0 es.length))):=by
  simp only[C1,h,e7,hv,ow,Option.map_some]
 rw[this];exact OB l1 hs
def eF (L:Lib) (s f:Nat) (vs:List AV) (q:B8) (r:AV) (q':B8):Prop := ∃ n,∀ o:AH,o s=q->DL L n f vs o=some (r,o.put s q')
theorem tJ {d:Option Nat} {s f:Nat} {xs:List AP} {g:Option (Nat × Bool)} {c5:List Nat} {l:List AI} {r:AV} {q':B8} (h:FH st g=some true) (hr:eF L s f (xs.map st.ev) (st.own s) r q')
  (ha:AO L l k (st.app d (.nu s q' r)) Q):AO L (⟨d,.bg s f xs,g,c5⟩::l) k st Q:=by
 obtain ⟨n,c,BT,j9,hs,ep,hq⟩:=ha;obtain ⟨c',w4⟩:=hr;have l1:=FN (L:=L) (Nat.le_max_left c c');have l2:=FN (L:=L) (Nat.le_max_right c c');have ow:V9 (C9 L (max c c')) f (xs.map st.ev) s (st.own s)=some (r,q'):=WA.2 λ o ho=>l2.2.1 f _ o _ (w4 o ho)
 refine ⟨n,max c c',BT,j9,?_,N7 l1 (Nat.le_refl n) ep,hq⟩;simp only[DE];have:C1 (C9 L (max c c')) ⟨d,.bg s f xs,g,c5⟩ st=some (st.app d (.nu s q' r)):=by
  simp only[C1,h,e7,ow,Option.map_some]
 rw[this];exact OB l1 hs
theorem sZ {d:Option Nat} {f:Nat} {xs:List AP} {g:Option (Nat × Bool)} {c5:List Nat} {l:List AI} {r:AV} {o':AH} (h:FH st g=some true) (hr:GJ L f (xs.map st.ev) st.own r o') :
  AO L (⟨d,.e8 f xs,g,c5⟩::l) k st Q↔AO L l k { (st.dst d r) with own:=o' } Q:=by
 have j7 : ∀ c r' o1,DL L c f (xs.map st.ev) st.own=some (r',o1)->C1 (C9 L c) ⟨d,.e8 f xs,g,c5⟩ st=some { (st.dst d r') with own:=o1 }:=λ c r' o1 hc=>by
  have w4:(C9 L c).fi f (xs.map st.ev) st.own=some (r',o1):=hc;simp [C1,h,e7,w4,St.app]
 constructor
 ·rintro ⟨n,c,BT,j9,hs,ep,hq⟩
  simp only[DE]at hs;cases hI:C1 (C9 L c) ⟨d,.e8 f xs,g,c5⟩ st with
  | none=>simp [hI]at hs
  | some A8 =>
   simp only[hI]at hs;cases hp:DL L c f (xs.map st.ev) st.own with
   | none =>
    have w4:(C9 L c).fi f (xs.map st.ev) st.own=none:=hp;simp [C1,h,e7,w4]at hI
   | some x =>
    obtain ⟨r',o1⟩:=x;obtain ⟨rfl,rfl⟩:=GJ.vn ⟨c,hp⟩ hr;rw[j7 c r' o1 hp]at hI;obtain rfl:=Option.some.inj hI;exact ⟨n,c,BT,j9,hs,ep,hq⟩
 ·rintro ⟨n,c,BT,j9,hs,ep,hq⟩
  obtain ⟨c',w4⟩:=hr;have l1:=FN (L:=L) (Nat.le_max_left c c');have l2:=FN (L:=L) (Nat.le_max_right c c');refine ⟨n,max c c',BT,j9,?_,N7 l1 (Nat.le_refl n) ep,hq⟩;simp only[DE];rw[j7 (max c c') r o' (l2.2.1 f _ _ _ w4)];exact OB l1 hs
theorem tH {d:Option Nat} {f:Nat} {cs:List AV} {x:AP} {xs:List AP} {g:Option (Nat × Bool)} {c5:List Nat} {l:List AI} {r:AV} {o':AH} (h:FH st g=some true) (hx:st.ev x = .fn false f (L.num f) cs) (hr:GJ L f (xs.map st.ev++cs) st.own r o') :
  AO L (⟨d,.o0 x xs,g,c5⟩::l) k st Q↔AO L l k { (st.dst d r) with own:=o' } Q:=by
 have j7 : ∀ c r' o1,DL L c f (xs.map st.ev++cs) st.own=some (r',o1)->C1 (C9 L c) ⟨d,.o0 x xs,g,c5⟩ st=some { (st.dst d r') with own:=o1 }:=λ c r' o1 hc=>by
  have w4:(C9 L c).fi f (xs.map st.ev++cs) st.own=some (r',o1):=hc;simp [C1,h,e7,hx,RY,w4,St.app]
 constructor
 ·rintro ⟨n,c,BT,j9,hs,ep,hq⟩
  simp only[DE]at hs;cases hI:C1 (C9 L c) ⟨d,.o0 x xs,g,c5⟩ st with
  | none=>simp [hI]at hs
  | some A8 =>
   simp only[hI]at hs;cases hp:DL L c f (xs.map st.ev++cs) st.own with
   | none =>
    have w4:(C9 L c).fi f (xs.map st.ev++cs) st.own=none:=hp;simp [C1,h,e7,hx,RY,w4]at hI
   | some x =>
    obtain ⟨r',o1⟩:=x;obtain ⟨rfl,rfl⟩:=GJ.vn ⟨c,hp⟩ hr;rw[j7 c r' o1 hp]at hI;obtain rfl:=Option.some.inj hI;exact ⟨n,c,BT,j9,hs,ep,hq⟩
 ·rintro ⟨n,c,BT,j9,hs,ep,hq⟩
  obtain ⟨c',w4⟩:=hr;have l1:=FN (L:=L) (Nat.le_max_left c c');have l2:=FN (L:=L) (Nat.le_max_right c c');refine ⟨n,max c c',BT,j9,?_,N7 l1 (Nat.le_refl n) ep,hq⟩;simp only[DE];rw[j7 (max c c') r o' (l2.2.1 f _ _ _ w4)];exact OB l1 hs
theorem sQ {Q':St->Prop} (h:AK L k st Q) (hq : ∀ s,Q s->Q' s):AK L k st Q':=by
 obtain ⟨n,c,j9,hr,hh⟩:=h;exact ⟨n,c,j9,hr,hq _ hh⟩
theorem GJ.intro {f:Nat} {fn:AFn} {vs:List AV} {o:AH} {r:AV} {o':AH} (hL:L f=some fn) (hp:vs.length=fn.af) (h:AK L [.code fn.body] ⟨CR 0 vs,o⟩ (λ st=>(fn.res.mapM (E6 st)).map HN=some r/\st.own=o')):GJ L f vs o r o':=by
 obtain ⟨n,c,j9,hr,h1,h2⟩:=h;refine ⟨max n c+1,?_⟩;rw[TW];simp only[hL,hp,if_true];rw[N7 (FN (L:=L) (Nat.le_max_right n c)) (Nat.le_max_left n c) hr];cases hm:fn.res.mapM (E6 j9) with
 | none=>rw[hm]at h1;cases h1
 | some rs =>
  rw[hm]at h1;simp only[Option.map_some,Option.some.injEq]at h1;simp [hm,h1,h2]
theorem FQ.intro {f:Nat} {fn:AFn} {vs:List AV} {r:AV} (hL:L f=some fn) (hp:vs.length=fn.af) (h:AK L [.code fn.body] ⟨CR 0 vs,AH.emp⟩ (λ st=>((fn.res.mapM (E6 st)).map HN).bind (PT st.own false)=some r/\A6 r)):FQ L f vs r:=by
 obtain ⟨n,c,j9,hr,h1,h2⟩:=h;cases hm:(fn.res.mapM (E6 j9)).map HN with
 | none=>rw[hm]at h1;cases h1
 | some r0 =>
  rw[hm]at h1;simp only[Option.bind_some]at h1;obtain ⟨q,hq⟩:=GJ.intro (o:=AH.emp) (r:=r0) (o':=j9.own) hL hp ⟨n,c,j9,hr,hm,rfl⟩;refine ⟨q,?_⟩;unfold H3;simp [hq,h1,h2]
theorem FQ.ev {f:Nat} {fn:AFn} {vs:List AV} {r:AV} (hL:L f=some fn) (h:FQ L f vs r) (hs:fn.mj=false:=by rfl):Ev L f vs r:=by
 obtain ⟨n,h⟩:=h;have hs:L.mj f=false:=by simp only[Lib.mj,hL,hs]
 exact ⟨n,by unfold GX JZ;rw[hs];exact h⟩
theorem FQ.cons {f:Nat} {q:Bool} {e:List AV} {es:List (List AV)} {vs:List AV} {r:AV} (h:FQ L f (.sl q (e::es)::vs) r):Ev L f (.sl q (e::es)::vs) r:=by
 obtain ⟨n,h⟩:=h;refine ⟨n,?_⟩;unfold GX JZ;split
 ·rename_i heq;simp at heq
 ·exact h
theorem FQ.nil {f:Nat} {fn:AFn} {q:Bool} {vs:List AV} {r:AV} (hL:L f=some fn) (h1:FQ L f (.bh (.bool true)::vs) r) (h2:FQ L f (.bh (.bool false)::vs) r) (hs:fn.mj=true:=by rfl):Ev L f (.sl q []::vs) r:=by
 obtain ⟨n,h1⟩:=h1;obtain ⟨n',h2⟩:=h2;have hs:L.mj f=true:=by simp only[Lib.mj,hL,hs]
 have k1:=UW (λ vs r h=>(FN (L:=L) (Nat.le_max_left n n')).2.1 f vs AH.emp r h) h1;have k2:=UW (λ vs r h=>(FN (L:=L) (Nat.le_max_right n n')).2.1 f vs AH.emp r h) h2;refine ⟨max n n',?_⟩;unfold GX JZ;rw[hs];simp only;have k1':H3 (λ vs=>DL L (max n n') f vs AH.emp) (.bh (.bool true)::vs)=some r:=k1;have k2':H3 (λ vs=>DL L (max n n') f vs AH.emp) (.bh (.bool false)::vs)=some r:=k2;rw[k1',k2'];simp
theorem Ev.intro {f:Nat} {fn:AFn} {vs:List AV} {r:AV} (hL:L f=some fn) (hp:vs.length=fn.af) (h:AK L [.code fn.body] ⟨CR 0 vs,AH.emp⟩ (λ st=>((fn.res.mapM (E6 st)).map HN).bind (PT st.own false)=some r/\A6 r)) (hs:fn.mj=false:=by rfl):Ev L f vs r :=
 (FQ.intro hL hp h).ev hL hs
end
end Go.e9

namespace Go.e9
section
variable {L:Lib} {k:List It} {tm:Tm} {own:AH} {Q:St->Prop} {l:List AI} {c5:List Nat} {d:Nat}
theorem VI (i:Nat) (v:AV) (r:Tm) (j:Nat):g6 ((i,v)::r) j=if j=i then v else g6 r j:=rfl
theorem Uu (j:Nat):g6 [] j = .any:=rfl
theorem Uq (i:Nat) (v:AV) (r:Tm) (l:List Nat):z9 ((i,v)::r) l=if l.contains i then z9 r l else (i,v)::z9 r l:=rfl
theorem Ur (l:List Nat):z9 [] l=[]:=rfl
theorem Rn (i:Nat) (v:AV) (r:List AV):CR i (v::r)=(i,v)::CR (i+1) r:=rfl
end
end Go.e9

namespace Go.e9
section
variable {L:Lib} {k:List It} {tm:Tm} {own:AH} {st:St} {Q:St->Prop} {l:List AI} {c5:List Nat} {d:Nat} {dst:Option Nat}
section
variable {x y:AP} {kd:IntKind} {a b:Int}
end
def TC (fn:AFn) (r:AV) (st:St):Prop:=((fn.res.mapM (E6 st)).map HN).bind (PT st.own false)=some r/\A6 r
theorem Ev.fwd {f:Nat} {fn:AFn} {vs:List AV} {r:AV} (hL:L f=some fn) (hp:vs.length=fn.af) (h:AK L [.code fn.body] ⟨CR 0 vs,AH.emp⟩ (TC fn r)) (hs:fn.mj=false:=by rfl):Ev L f vs r:=Ev.intro hL hp h hs
theorem FQ.fwd {f:Nat} {fn:AFn} {vs:List AV} {r:AV} (hL:L f=some fn) (hp:vs.length=fn.af) (h:AK L [.code fn.body] ⟨CR 0 vs,AH.emp⟩ (TC fn r)):FQ L f vs r:=FQ.intro hL hp h
end
attribute [irreducible] TC
end Go.e9

namespace Go.e9
def pw (n:Int):Int:=2^n.toNat
theorem Sv (n:Int):1<=pw n:=by
 have:0<pw n:=Int.pow_pos (by decide)
 omega
theorem Vq {k2:IntKind} {a n:Int} (h:0<=n/\n<=63):DJ .shr .i64 a k2 n=some (.int .i64 (a/pw n)):=by
 have h2:=Sv n;have e:(2:Int)^(min n.toNat IntKind.i64.bits)=pw n:=by
  have:min n.toNat IntKind.i64.bits=n.toNat:=by simp only[IntKind.bits];omega
  rw[this];rfl
 simp only[DJ];rw[if_neg (by omega),e,Int.fdiv_eq_ediv_of_nonneg _ (by omega)]
theorem rF {a m:Int} (hm:0<m):a.tmod m=if 0<=a\/a%m=0 then a%m else a%m-m:=by
 have h:=Int.tmod_eq_emod (a:=a) (b:=m);rw[h];have hd:m ∣ a↔a%m=0:=Int.dvd_iff_emod_eq_zero;by_cases h0:0<=a\/a%m=0
 ·rw[if_pos h0,if_pos (by rcases h0 with h0|h0;exact Or.inl h0;exact Or.inr (hd.2 h0))];omega
 ·rw[if_neg h0,if_neg (λ h=>h0 (h.imp id hd.1))]
  have:(m.natAbs:Int)=m:=by omega
  omega
theorem qX {a m:Int} (hm:0<m):a.tdiv m=if 0<=a\/a%m=0 then a/m else a/m+1:=by
 have h:=Int.tdiv_eq_ediv (a:=a) (b:=m);rw[h];have hd:m ∣ a↔a%m=0:=Int.dvd_iff_emod_eq_zero;by_cases h0:0<=a\/a%m=0
 ·rw[if_pos h0,if_pos (by rcases h0 with h0|h0;exact Or.inl h0;exact Or.inr (hd.2 h0))];omega
 ·rw[if_neg h0,if_neg (λ h=>h0 (h.imp id hd.1)),Int.sign_eq_one_of_pos hm]
theorem Mw {a m:Int} (hm:1<=m) (h : -9223372036854775808<=a/\a<=9223372036854775807) : -9223372036854775808<=a/m/\a/m<=9223372036854775807:=by
 constructor
 ·rw[Int.le_ediv_iff_mul_le (by omega)]
  have:=Int.mul_le_mul_of_nonpos_left (a := -9223372036854775808) (b:=m) (c:=1) (by omega) hm
  omega
 ·have:a/m<9223372036854775808:=by
   rw[Int.ediv_lt_iff_lt_mul (by omega)];have:=Int.mul_le_mul_of_nonneg_left (c:=9223372036854775808) (a:=1) (b:=m) hm (by omega)
   omega
  omega
section
variable {L:Lib} {k:List It} {tm:Tm} {own:AH} {Q:St->Prop} {l:List AI} {c5:List Nat} {d:Nat} {x y:AP} {a b n p:Int} {k2:IntKind}
end
end Go.e9

namespace Go.e9
theorem SZ (ts:List Nat) (j:Nat) : ∀ tm:Tm,g6 (z9 tm ts) j=if ts.contains j then .any else g6 tm j
 | []=>by simp [Ur,Uu]
 | (i,u)::r=>by
  rw[Uq];by_cases h:ts.contains i=true
  ·rw[if_pos h,SZ ts j r,VI]
   by_cases h2:j=i
   ·subst h2;rw[if_pos h,if_pos h]
   ·rw[if_neg h2]
  ·rw[if_neg h,VI,VI,SZ ts j r]
   by_cases h2:j=i
   ·subst h2;rw[if_pos rfl,if_pos rfl,if_neg h]
   ·rw[if_neg h2,if_neg h2]
def OV (j:Nat):List Nat->Bool
 | []=>false
 | i::r=>bif Nat.beq j i then true else OV j r
abbrev QK (n:Int):List AV:=[.int .i64 n]
section
variable {L:Lib} {k:List It} {tm:Tm} {own:AH} {Q:St->Prop} {l:List AI} {c5:List Nat} {d:Nat} {x i:AP} {kd:IntKind} {a:Int} {q:Bool} {α:Type} {es:List α} {enc:α->List AV} {z:Nat}
end
end Go.e9

namespace Go.e9
inductive A7 where
 | bx (cs:List AV)
 | rw (z:Nat) (es:List (List AV))
 | bs (z:Nat) (es:List (List AV))
 | mx (rows:List (Option (Nat × List (List AV))))
 | hx (i:Nat) (v:AV) (rows:List (Option (Nat × List (List AV))))
 | vw (w:List Nat) (rows:List (Option (Nat × List (List AV))))
abbrev Mem:=List (Nat × Nat × A7)
def c8:Mem->Nat->Option (Nat × A7)
 | [],_=>none
 | (k,s,c)::r,j=>bif Nat.beq j k then some (s,c) else c8 r j
def c6 (M:Mem) (k t:Nat):Option A7:=match c8 M k with
 | none=>none
 | some (_,c)=>match t with
  | 0=>some c
  | i+1=>match c with
   | .mx rows=>match rows[i]? with
    | some (some (z,es))=>some (.rw z es)
    | _=>none
   | .hx _ _ rows=>match rows[i]? with
    | some (some (z,es))=>some (.rw z es)
    | _=>none
   | .vw _ rows=>match rows[i]? with
    | some (some (z,es))=>some (.rw z es)
    | _=>none
   | _=>none
def o5 (j:Nat):Mem->Mem
 | []=>[]
 | (k,s,c)::r=>bif Nat.beq j k then o5 j r else (k,s,c)::o5 j r
def tg:Tm->Nat->AV
 | [],_ => .any
 | (i,v)::r,j=>bif Nat.beq j i then v else tg r j
def bit (m i:Nat):Bool:=Nat.beq (Nat.land (Nat.shiftRight m i) 1) 1
def mask:Nat->List Nat->Nat
 | m,[]=>m
 | m,t::ts=>mask (Nat.lor m (Nat.shiftLeft 1 t)) ts
def ry (m:Nat):Tm->Tm
 | []=>[]
 | (i,v)::r=>bif bit m i then ry m r else (i,v)::ry (Nat.lor m (Nat.shiftLeft 1 i)) r
def fN (n:Nat) (K:Nat->Prop):Prop:=match n with
 | 0=>K 0
 | k+1=>K (k+1)
def pj:AV->Bool
 | .int _ _=>true | .bool _=>true | .bh _=>true | .sl _ _=>true | .nil=>true
 | _=>false
def D7:List AV->Bool
 | []=>true
 | v::r=>bif pj v then D7 r else false
def TU:List (List AV)->Bool
 | []=>true
 | v::r=>bif D7 v then TU r else false
def M4 (s:Nat):AV->Bool
 | .row k _ _ _ _=>Nat.beq k s | .ptr k _ _ _=>Nat.beq k s
 | _=>false
def HO (s:Nat):List AV->Bool
 | []=>false
 | v::r=>bif M4 s v then true else HO s r
def IP (s:Nat):List (List AV)->Bool
 | []=>false
 | v::r=>bif HO s v then true else IP s r
def OY (s:Nat):AV->Bool
 | .agg cs=>HO s cs
 | .fn _ _ _ cs=>HO s cs
 | v=>M4 s v
def ST (s:Nat):List AV->Bool
 | []=>false
 | v::r=>bif OY s v then true else ST s r
def M5 (s:Nat):AV->Bool
 | .j4 vs=>ST s vs
 | v=>OY s v
def HP (s:Nat):Tm->Bool
 | []=>false
 | (_,v)::r=>bif M5 s v then true else HP s r
def GZ (s:Nat):A7->Bool
 | .bx cs=>HO s cs
 | .rw _ _=>false
 | .bs _ es=>IP s es
 | .mx _=>false
 | .hx _ _ _=>false
 | .vw _ _=>false
def GQ (s:Nat):Mem->Bool
 | []=>false
 | (k,_,c)::r=>bif Nat.beq s k then true else bif GZ s c then true else GQ s r
def OM (s:Nat):AV->Bool
 | .row k t _ _ _=>bif Nat.beq k s then (match t with|0=>false|_+1=>true) else false
 | .ptr k t _ _=>bif Nat.beq k s then (match t with|0=>false|_+1=>true) else false
 | _=>false
def NW (s:Nat):List AV->Bool
 | []=>false
 | v::r=>bif OM s v then true else NW s r
def QC (s:Nat):AV->Bool
 | .agg cs=>NW s cs
 | .fn _ _ _ cs=>NW s cs
 | v=>OM s v
def RV (s:Nat):List AV->Bool
 | []=>false
 | v::r=>bif QC s v then true else RV s r
def PA (s:Nat):AV->Bool
 | .j4 vs=>RV s vs
 | v=>QC s v
def NX (s:Nat):Tm->Bool
 | []=>false
 | (_,v)::r=>bif PA s v then true else NX s r
def RW (s:Nat):List (List AV)->Bool
 | []=>false
 | v::r=>bif NW s v then true else RW s r
def ON (s:Nat):A7->Bool
 | .bx cs=>NW s cs
 | .bs _ es=>RW s es
 | _=>false
def JU (s:Nat):Mem->Bool
 | []=>false
 | (_,_,c)::r=>bif ON s c then true else JU s r
def used (k:Nat) (tm:Tm) (M:Mem):Bool:=bif GQ k M then true else HP k tm
def XV (tm:Tm) (M:Mem):List Nat->(Nat->Prop)->Prop
 | [],_=>False
 | k::r,K=>bif used k tm M then XV tm M r K else K k
def FS (s:Nat) (tm:Tm) (M:Mem) (K:Nat->Prop):Prop:=XV tm M [s,s+1000000,s+2000000,s+3000000] K
def fL:List AV->(List AV->Prop)->Prop
 | [],K=>K []
 | v::r,K=>fL r λ r'=>K (v::r')
def fV (v:AV) (K:AV->Prop):Prop:=match v with
 | .int k n=>K (.int k n) | .bool b=>K (.bool b) | .sl l es=>K (.sl l es) | .row s t z o n=>K (.row s t z o n)
 | .nil=>K .nil | .ptr s t i j=>K (.ptr s t i j) | .s8 cs=>K (.s8 cs) | .agg cs=>fL cs λ cs=>K (.agg cs)
 | .fn p f g cs=>fL cs λ cs=>K (.fn p f g cs)
 | .j4 vs=>fL vs λ vs=>K (.j4 vs) | .bh c=>K (.bh c) | .any=>False
def fC (v:AV) (K:List AV->Prop):Prop:=match v with
 | .agg cs=>fL cs K
 | .fn _ _ _ _=>False
 | .j4 _=>False
 | .any=>False
 | v=>fV v λ v=>K [v]
def fB (b:Bool) (K:Bool->Prop):Prop:=match b with
 | true=>K true
 | false=>K false
def fT:Tm->(Tm->Prop)->Prop
 | [],K=>K []
 | (i,v)::r,K=>fT r λ r'=>K ((i,v)::r')
def fM:Mem->(Mem->Prop)->Prop
 | [],K=>K []
 | (k,s,c)::r,K=>fM r λ r'=>K ((k,s,c)::r')
def fF (v:AV) (K:AV->Prop):Prop:=match v with
 | .int k n=>K (.int k n) | .bool b=>K (.bool b) | .sl l es=>K (.sl l es) | .row s t z o n=>K (.row s t z o n)
 | .nil=>K .nil | .ptr s t i j=>K (.ptr s t i j) | .bh c=>K (.bh c)|_=>False
def f2 (v:AV) (K:AV->Prop):Prop:=match v with
 | .int k n=>K (.int k n) | .bool b=>K (.bool b) | .sl l es=>K (.sl l es) | .row s t z o n=>K (.row s t z o n)
 | .nil=>K .nil | .ptr s t i j=>K (.ptr s t i j) | .bh c=>K (.bh c) | .agg cs=>fL cs λ cs=>K (.agg cs) | .fn p f g cs=>fL cs λ cs=>K (.fn p f g cs)|_=>False
def nr (agg:Bool) (ds:List AV) (K:AV->Prop):Prop:=match agg with
 | true=>K (.agg ds)
 | false=>match ds with
  | [c]=>fF c K
  | _=>False
def AF (p q A B:Prop):Prop:=(p->A)/\(q->B)
def AQ (p A:Prop):Prop:=p/\A
def AD (op:BinOp) (k:IntKind) (a:Int) (k':IntKind) (b:Int) (K:AV->Prop):Prop := ∃ v,DJ op k a k' b=some v/\K v
def DW (op:UnOp) (k:IntKind) (n:Int) (K:AV->Prop):Prop := ∃ v,PX op (.int k n)=some v/\K v
structure A0 (k:IntKind) (n:Int) (K:Int->Prop):Prop where h:K (k.wrap n)
def AW (es:List (List AV)) (a:Int) (z:Nat) (K:List AV->Prop):Prop:=0<=a /\ ∃ cs,es[a.toNat]? = some cs/\cs.length=z/\K cs
def A9 (es:List (List AV)) (i j n:Nat) (K:List AV->Prop):Prop := ∃ cs ds,es[i]? = some cs/\part cs j n=some ds/\K ds
def BD (es:List (List AV)) (i j:Nat) (vs:List AV) (K:List (List AV)->Prop):Prop := ∃ cs,es[i]? = some cs/\j+vs.length<=cs.length/\K (es.set i (splice cs j vs))
def CO (a b:Int) (bytes:Nat) (zero:List AV) (K:List (List AV)->Nat->Prop):Prop:=(0<=a/\a<=b/\b*bytes<=EQ/\b<=9223372036854775807)/\K (List.replicate a.toNat zero) a.toNat
structure AM (es:List (List AV)) (K:Nat->Prop):Prop where h:K es.length
def AX (es:List (List AV)) (len:Nat) (ys:List (List AV)) (z bytes:Nat) (K:List (List AV)->Nat->Prop):Prop :=
 len<=es.length/\(∀ e∈ys,e.length=z)/\(len+ys.length)*bytes<=EQ/\len+ys.length<=9223372036854775807/\K (es.take len++ys) (len+ys.length)
def BI (ys:List (List AV)) (z bytes:Nat) (K:List (List AV)->Nat->Prop):Prop :=
 (∀ e∈ys,e.length=z)/\ys.length*bytes<=EQ/\ys.length<=9223372036854775807/\K ys ys.length
def FZ (es:List (List AV)) (off len:Nat) (ys:List (List AV)) (z:Nat) (K:List (List AV)->Nat->Prop):Prop :=
 off+len<=es.length/\(∀ e∈ys,e.length=z)/\K (es.take off++ys.take len++es.drop (off+min ys.length len)) (min ys.length len)
def CE (es:List (List AV)) (off len:Nat) (K:List (List AV)->Prop):Prop:=off+len<=es.length/\K ((es.drop off).take len)
def E5:List AV->Bool
 | []=>true
 | v::r=>match v with
  | .int _ _=>E5 r | .bool _=>E5 r | .bh _=>E5 r | .sl _ _=>E5 r
  | _=>false
def nl:AV->AV
 | .nil => .sl false []
 | v=>v
def LC:List AV->Bool
 | []=>true
 | v::r=>match v with
  | .int _ _=>LC r | .bool _=>LC r | .bh _=>LC r | .sl _ _=>LC r | .nil=>LC r
  | _=>false
def A4 (es:List (List AV)) (off len:Nat) (K:List (List AV)->Prop):Prop:=off+len<=es.length/\(∀ e∈es,LC e=true)/\K (((es.drop off).take len).map λ e=>e.map nl)
def D6 (rows:List (Option (Nat × List (List AV)))) (i:Nat) (K:Option (Nat × List (List AV))->Prop):Prop := ∃ r,rows[i]? = some r/\K r
def C3 (rows:List (Option (Nat × List (List AV)))) (i:Nat) (K:Nat->List (List AV)->Prop):Prop := ∃ z es,rows[i]? = some (some (z,es))/\K z es
def E7 (rows:List (Option (Nat × List (List AV)))) (i z:Nat) (es:List (List AV)) (K:List (Option (Nat × List (List AV)))->Prop):Prop:=i<rows.length/\K (rows.set i (some (z,es)))
def EH (rows:List (Option (Nat × List (List AV)))) (i z:Nat) (es es':List (List AV)) (K:List (Option (Nat × List (List AV)))->Prop):Prop:=es'.length=es.length/\K (rows.set i (some (z,es')))
def FE (a b:Int) (bytes:Nat) (K:List (Option (Nat × List (List AV)))->Nat->Prop):Prop:=(0<=a/\a<=b/\b*bytes<=EQ/\b<=9223372036854775807)/\K (List.replicate a.toNat none) a.toNat
def BP (rows:List (Option (Nat × List (List AV)))) (len:Nat) (r:Option (Nat × List (List AV))) (bytes:Nat) (K:List (Option (Nat × List (List AV)))->Nat->Prop):Prop :=
 len=rows.length/\(len+1)*bytes<=EQ/\len+1<=9223372036854775807/\K (rows++[r]) (len+1)
def PS (q:Bool):List (Option (Nat × List (List AV)))->List (List AV)
 | []=>[]
 | none::r=>[.sl false []]::PS q r
 | some (_,es)::r=>[.sl q es]::PS q r
def C4 (q:Bool) (rows:List (Option (Nat × List (List AV)))) (off len:Nat) (K:List (List AV)->Prop):Prop :=
 off=0/\len=rows.length/\(∀ z es,some (z,es)∈rows -> ∀ e∈es,E5 e=true)/\K (PS q rows)
def CD (lo hi:Option Int) (len:Nat) (K:Nat->Nat->Prop):Prop :=
 ∃ a h:Nat,(match lo with|none=>a=0|some x=>0<=x/\a=x.toNat)/\(match hi with|none=>h=len|some x=>0<=x/\x<=len/\h=x.toNat)/\a<=h/\K a h
def C7 (z:Nat) (es:List (List AV)) (lo hi:Option Int) (K:List (List AV)->Prop):Prop:=(∀ e∈es,e.length=z)/\CD lo hi es.length λ a h=>K ((es.take h).drop a)
def AB (L:Lib) (f:Nat) (vs:List AV) (K:AV->Prop):Prop := ∃ r,Ev L f vs r/\K r
def W6:List AV->Bool
 | []=>true
 | .int _ _::r=>W6 r
 | _=>false
def CF (L:Lib) (f:Nat) (vs:List AV) (K:Nat->List (List AV)->Nat->Prop):Prop := ∃ z es n,FR L f vs z es/\n=es.length/\K z es n
abbrev FU:=Nat->Nat->Nat × Nat
def A8 (σ:FU):AV->AV
 | .row k t z o n => .row (σ k t).1 (σ k t).2 z o n
 | .ptr k t i j => .ptr (σ k t).1 (σ k t).2 i j
 | v=>v
def BT (σ:FU):AV->AV
 | .agg cs => .agg (cs.map (A8 σ))
 | .fn p f g cs => .fn p f g (cs.map (A8 σ))
 | v=>A8 σ v
def BC (σ:FU):AV->AV
 | .j4 vs => .j4 (vs.map (BT σ))
 | v=>BT σ v
def B4 (σ:FU) (k:Nat):Nat->List (Option (Nat × List (List AV)))->List (List AV)
 | _,[]=>[]
 | i,none::r=>[.nil]::B4 σ k (i+1) r
 | i,some (z,es)::r=>[.row (σ k (i+1)).1 (σ k (i+1)).2 z 0 es.length]::B4 σ k (i+1) r
def A7.e6 (σ:FU) (k:Nat):A7->DZ
 | .bx cs=>⟨cs.length,[cs.map (A8 σ)]⟩
 | .rw z es=>⟨z,es⟩
 | .bs z es=>⟨z,es.map λ cs=>cs.map (A8 σ)⟩
 | .mx rows=>⟨1,B4 σ k 0 rows⟩
 | .hx i v rows=>⟨1,(B4 σ k 0 rows).set i [v]⟩
 | .vw w rows=>⟨1,w.map λ t=>((B4 σ k 0 rows)[t]?).getD []⟩
def A7.kr:A7->Bool
 | .bx _=>false
 | _=>true
def EU (s:Nat):Bool:=Nat.blt s 900000
structure JS (σ:FU) (own:AH) (M:Mem):Prop where
 site : ∀ k s c,c8 M k=some (s,c)->(σ k 0).1=s
 e6 : ∀ k t c,c6 M k t=some c->(own (σ k t).1).e6 (σ k t).2=some (c.e6 σ k)
 old : ∀ k t c,c6 M k t=some c->(σ k t).2<(own (σ k t).1).g8
 inj : ∀ k t k' t' c c',c6 M k t=some c->c6 M k' t'=some c'->σ k t=σ k' t'->k=k'/\t=t'
 low : ∀ k t c,c6 M k t=some c->c.kr=true->EU (σ k t).1=true
structure RX (σ:FU) (tm:Tm) (M:Mem) (st:St):Prop where
 tm : ∀ j,tg tm j = .any\/g6 st.tm j=BC σ (tg tm j)
 sat:JS σ st.own M
def SQ (Q:Tm->Mem->Prop) (st:St):Prop := ∃ σ tm M,RX σ tm M st/\Q tm M
def AA (L:Lib) (k:List It) (tm:Tm) (M:Mem) (Q:Tm->Mem->Prop):Prop := ∀ σ st,RX σ tm M st->AK L k st (SQ Q)
def dZ (L:Lib) (l:List AI) (k:List It) (tm:Tm) (M:Mem) (Q:Tm->Mem->Prop):Prop := ∀ σ st,RX σ tm M st->AO L l k st (SQ Q)
def BA (L:Lib) (f:Nat) (vs:List AV) (tm:Tm) (M:Mem) (K:AV->Mem->Prop):Prop :=
 ∀ σ own,JS σ own M -> ∃ r l8 σ' M',GJ L f (vs.map (BC σ)) own (BC σ' r) l8/\JS σ' l8 M'/\(∀ j,BC σ' (tg tm j)=BC σ (tg tm j))/\K r M'
def tT (L:Lib) (s f key:Nat) (rest:List AV) (M:Mem) (K:AV->Mem->Prop):Prop :=
 ∃ (cells eb:List AV) (kd:IntKind) (n:Int),c8 M key=some (s,.bx cells)/\D7 cells=true/\D7 eb=true/\(∀ (t:Nat) (q:B8),q.e6 t=some ⟨cells.length,[cells]⟩->eF L s f (.ptr s t 0 0::rest) q (.int kd n) (q.o9 t (some ⟨eb.length,[eb]⟩)))/\K (.int kd n) ((key,s,.bx eb)::M)
def cv:AV->AV
 | .agg cs=>bif D7 cs then .agg cs else .any
 | .j4 [] => .j4 []
 | .s8 _ => .any
 | .fn p f g [] => .fn p f g []
 | v=>bif pj v then v else .any
def ex (tm:Tm):AP->AV
 | .t n=>tg tm n
 | .c v=>cv v
def kq (k k':IntKind):Bool:=decide (k=k')
def Y6 (op:BinOp) (k:IntKind) (a:Int) (k':IntKind) (b:Int) (K:AV->Prop):Prop:=match op with
 | .lss=>bif kq k k' then AF (a<b) (b<=a) (K (.bool true)) (K (.bool false)) else False
 | .leq=>bif kq k k' then AF (a<=b) (b<a) (K (.bool true)) (K (.bool false)) else False
 | .gtr=>bif kq k k' then AF (b<a) (a<=b) (K (.bool true)) (K (.bool false)) else False
 | .geq=>bif kq k k' then AF (b<=a) (a<b) (K (.bool true)) (K (.bool false)) else False
 | .eql=>bif kq k k' then AF (a=b) (a≠b) (K (.bool true)) (K (.bool false)) else False
 | .neq=>bif kq k k' then AF (a≠b) (a=b) (K (.bool true)) (K (.bool false)) else False
 | op=>AD op k a k' b K
noncomputable def QU (mx:Bool) (k:IntKind) (K:AV->Prop) (a:Int) (l:List AV):Prop :=
 List.rec (motive:=λ_=>Int->Prop) (λ a=>K (.int k a)) (λ v _ ih a=>match v with
  | .int _ b=>bif mx then AF (a<b) (b<=a) (ih b) (ih a) else AF (b<a) (a<=b) (ih b) (ih a)
  | _=>False) l a
def tp:List AV->Nat->AV
 | [],_ => .any
 | v::_,0=>v
 | _::r,n+1=>tp r n
def PN (s:Nat):List Nat->Bool
 | []=>true
 | c5 => !(OV s c5)
def QX:List Nat->Bool
 | []=>true
 | s::r=>bif EU s then false else QX r
def cT (M:Mem) (k t:Nat) (K:Nat->List (List AV)->Prop):Prop:=match c8 M k with
 | some (_,c)=>match t with
  | 0=>match c with
   | .rw z es=>K z es
   | _=>False
  | i+1=>match c with
   | .mx rows=>C3 rows i K
   | _=>False
 | none=>False
def WS (M:Mem) (v:AV) (K:List (List AV)->Prop):Prop:=match v with
 | .sl _ es=>K es
 | .nil=>K []
 | .bh (.bool _)=>K []
 | .row key t z off len=>cT M key t λ z' es=>bif Nat.beq z z' then CE es off len K else False
 | _=>False
def O0 (q:Bool) (M:Mem) (c5:List Nat) (v:AV) (K:AV->Prop):Prop:=match v with
 | .int k n=>K (.int k n)
 | .bool b=>K (.bool b)
 | .sl l es=>K (.sl l es)
 | .bh c=>K (.bh c)
 | .nil=>K (.sl false [])
 | .row key t z off len=>match c8 M key with
  | some (s,.rw z' es)=>match t with
   | 0=>bif Nat.beq z z' then bif PN s c5 then A4 es off len λ es=>K (.sl q es) else False else False
   | _+1=>False
  | some (_,.mx rows)=>match t with
   | 0=>False
   | i+1=>match c5 with
    | []=>C3 rows i λ z' es=>bif Nat.beq z z' then A4 es off len λ es=>K (.sl q es) else False
    | b::r=>bif QX (b::r) then C3 rows i λ z' es=>bif Nat.beq z z' then A4 es off len λ es=>K (.sl q es) else False else False
  | _=>False
 | _=>False
noncomputable def X8 (q:Bool) (M:Mem) (c5:List Nat) (l:List AV):(List AV->Prop)->Prop :=
 List.rec (motive:=λ_=>(List AV->Prop)->Prop) (λ K=>K []) (λ v _ ih K=>O0 q M c5 v λ v'=>ih λ r'=>K (v'::r')) l
noncomputable def dC (q:Bool) (M:Mem) (c5:List Nat) (l:List (List AV)):(List (List AV)->Prop)->Prop :=
 List.rec (motive:=λ_=>(List (List AV)->Prop)->Prop) (λ K=>K []) (λ v _ ih K=>X8 q M c5 v λ v'=>ih λ r'=>K (v'::r')) l
noncomputable def RA (q:Bool) (M:Mem) (c5:List Nat) (v:AV) (K:AV->Prop):Prop:=match v with
 | .row key 0 z off len=>match c8 M key with
  | some (s,.bs z' es)=>bif Nat.beq z z' then bif PN s c5 then bif Nat.beq off 0 then AQ (len=es.length) (dC q M c5 es λ es=>K (.sl q es)) else False else False else False
  | some (_,.mx rows)=>match c5 with
   | []=>bif Nat.beq z 1 then C4 q rows off len λ es=>K (.sl q es) else False
   | _::_=>False
  | _=>O0 q M c5 (.row key 0 z off len) K
 | v=>O0 q M c5 v K
noncomputable def dD (q:Bool) (M:Mem) (c5:List Nat) (l:List AV):(List AV->Prop)->Prop :=
 List.rec (motive:=λ_=>(List AV->Prop)->Prop) (λ K=>K []) (λ v _ ih K=>RA q M c5 v λ v'=>ih λ r'=>K (v'::r')) l
noncomputable def N9 (q:Bool) (M:Mem) (c5:List Nat) (v:AV) (K:AV->Prop):Prop:=match v with
 | .agg cs=>dD q M c5 cs λ cs=>K (.agg cs)
 | v=>RA q M c5 v K
noncomputable def U8 (tm:Tm) (M:Mem) (c5:List Nat) (l:List AP):(List AV->Prop)->Prop :=
 List.rec (motive:=λ_=>(List AV->Prop)->Prop) (λ K=>K []) (λ x _ ih K=>N9 true M c5 (ex tm x) λ v=>ih λ vs=>K (v::vs)) l
noncomputable def X9 (M:Mem) (c5:List Nat) (v:AV) (K:AV->Prop):Prop:=match v with
 | .nil=>K .nil
 | v=>N9 true M c5 v K
noncomputable def dE (tm:Tm) (M:Mem) (c5:List Nat) (l:List AP):(List AV->Prop)->Prop :=
 List.rec (motive:=λ_=>(List AV->Prop)->Prop) (λ K=>K []) (λ x _ ih K=>X9 M c5 (ex tm x) λ v=>ih λ vs=>K (v::vs)) l
noncomputable def SC (tm:Tm) (l:List AP):(List AV->Prop)->Prop :=
 List.rec (motive:=λ_=>(List AV->Prop)->Prop) (λ K=>K []) (λ x _ ih K=>fV (ex tm x) λ v=>ih λ vs=>K (v::vs)) l
def XN (tm:Tm) (o:Option AP) (K:Option Int->Prop):Prop:=match o with
 | none=>K none
 | some x=>match ex tm x with
  | .int _ n=>K (some n)
  | _=>False
def UJ (es:List (List AV)) (K:Nat->Prop):Prop:=match es with
 | []=>K 0
 | [_]=>K 1
 | [_,_]=>K 2
 | [_,_,_]=>K 3
 | [_,_,_,_]=>K 4
 | es=>K es.length
noncomputable def Y9 (tm:Tm) (z:Nat) (l:List AP):(List (List AV)->Prop)->Prop :=
 List.rec (motive:=λ_=>(List (List AV)->Prop)->Prop) (λ K=>K []) (λ x _ ih K=>fC (ex tm x) λ cs=>bif Nat.beq cs.length z then ih λ es=>K (cs::es) else False) l
noncomputable def aJ (tm:Tm) (ps:List (Nat × Nat × AP)):List AV->(List AV->Prop)->Prop :=
 List.rec (motive:=λ_=>List AV->(List AV->Prop)->Prop) (λ cells K=>K cells) (λ p _ ih cells K=>fC (ex tm p.2.2) λ vs=>bif Nat.beq vs.length p.2.1 then bif Nat.ble (p.1+p.2.1) cells.length then fL (splice cells p.1 vs) λ cells=>ih cells K else False else False) ps
def PF (tm:Tm):List AP->List AV
 | []=>[]
 | x::r=>ex tm x::PF tm r
def P6 (tb:List Nat) (n:Int) (K:Nat->Prop):Prop:=0<=n /\ ∃ v,tb[n.toNat]? = some v/\K v
noncomputable def bV (tm:Tm) (l:List AP):(List AV->Prop)->Prop :=
 List.rec (motive:=λ_=>(List AV->Prop)->Prop) (λ K=>K []) (λ x _ ih K=>fF (ex tm x) λ v=>ih λ cs=>K (v::cs)) l
def cA:AV->Bool
 | .agg _=>false | .fn _ _ _ _=>false | .j4 _=>false | .any=>false
 | _=>true
def US:List AV->Bool
 | []=>true
 | v::r=>bif cA v then US r else false
def P8 (M:Mem) (v:AV):Option (Nat × Option (Nat × Nat × Nat)):=match v with
 | .row ky 0 1 0 1=>match c8 M ky with
  | some (_,.bs 1 [[.row k2 0 z 0 n]])=>some (ky,some (k2,z,n))
  | some (_,.rw 1 [[.nil]])=>some (ky,none)
  | _=>none
 | _=>none
def UH (z:Nat):List (List AV)->Bool
 | []=>true
 | e::r=>bif Nat.beq e.length z then UH z r else false
def Y4 (tm:Tm) (M:Mem) (s z bytes:Nat) (x y:AP) (K:AV->Mem->Prop):Prop:=match ex tm y with
 | .row ky 0 zy 0 ny=>match c8 M ky with
  | some (_,.bs z2 ik)=>bif Nat.beq zy z then bif Nat.beq z2 z then bif Nat.beq ny ik.length then bif UH z ik then (match ex tm x with
   | .nil=>bif EU s then UJ ik λ n=>AQ (n*bytes<=140737488355328/\n<=9223372036854775807) (FS s tm M λ k=>K (.row k 0 z 0 n) ((k,s,.bs z ik)::M)) else False
   | .row kx 0 zx 0 len=>bif Nat.beq zx z then (match c8 M kx with
    | some (s',.bs z1 rf)=>bif Nat.beq z1 z then bif Nat.beq len rf.length then fM (o5 kx M) λ M'=>UJ (rf++ik) λ n=>AQ (n*bytes<=140737488355328/\n<=9223372036854775807) (FS s tm M λ k=>K (.row k 0 z 0 n) ((k,s',.bs z (rf++ik))::M')) else False else False
    | _=>False) else False
   | _=>False) else False else False else False else False
  | _=>False
 | _=>False
def dL (tm:Tm) (M:Mem) (K:AV->Mem->Prop) (n:Nat) (x v:AP):Prop:=match ex tm x with
 | .ptr key t i j=>fC (ex tm v) λ vs=>bif Nat.beq vs.length n then (match c8 M key with
  | some (s,c)=>match t with
   | 0=>match c with
    | .bx cs=>bif Nat.beq i 0 then bif Nat.ble (j+vs.length) cs.length then fL (splice cs j vs) λ dc=>K (.j4 []) ((key,s,.bx dc)::M) else False else False
    | .rw z es=>bif D7 vs then BD es i j vs λ es'=>K (.j4 []) ((key,s,.rw z es')::M) else False
    | .bs _ _=>False
    | .mx rows=>match vs with
     | [.row w5 0 z 0 m]=>bif Nat.beq key w5 then False else bif NX key tm then False else bif JU key M then False else bif Nat.beq j 0 then (match c8 M w5 with
      | some (_,.rw z' es)=>bif Nat.beq z z' then fM (o5 w5 M) λ M'=>AQ (m=es.length) (E7 rows i z es λ du=>K (.j4 []) ((key,s,.mx du)::M')) else False
      | _=>False) else False
     | [.row w5 (t2+1) z 0 m]=>bif Nat.beq key w5 then bif Nat.beq j 0 then C3 rows t2 λ z' es=>bif Nat.beq z z' then AQ (m=es.length/\i<rows.length) (K (.j4 []) ((key,s,.vw ((List.range rows.length).set i t2) rows)::M)) else False else False else False
     | _=>False
    | .hx i0 _ rows=>match vs with
     | [.row w5 0 z 0 m]=>bif Nat.beq key w5 then False else bif NX key tm then False else bif JU key M then False else bif Nat.beq j 0 then (match c8 M w5 with
      | some (_,.rw z' es)=>bif Nat.beq z z' then fM (o5 w5 M) λ M'=>AQ (i=i0/\m=es.length) (E7 rows i z es λ du=>K (.j4 []) ((key,s,.mx du)::M')) else False
      | _=>False) else False
     | _=>False
    | .vw w rows=>match vs with
     | [.row w5 (t2+1) z 0 m]=>bif Nat.beq key w5 then bif Nat.beq j 0 then C3 rows t2 λ z' es=>bif Nat.beq z z' then AQ (m=es.length/\i<w.length /\ ∀ t∈w,t<rows.length) (K (.j4 []) ((key,s,.vw (w.set i t2) rows)::M)) else False else False else False
     | _=>False
   | i'+1=>match c with
    | .mx rows=>bif D7 vs then C3 rows i' λ z es=>BD es i j vs λ es'=>EH rows i' z es es' λ du=>K (.j4 []) ((key,s,.mx du)::M) else False
    | _=>False
  | none=>False) else False
 | _=>False
def B9 (r:AV) (K:AV->Prop):Prop:=(JR r\/RM r)/\K (KO r)
noncomputable def XE (L:Lib) (tm:Tm) (M:Mem) (c5:List Nat) (K:AV->Mem->Prop):DT->Prop
 | .a9 x=>fV (ex tm x) λ v=>K v M
 | .ah s z=>bif EU s then FS s tm M λ k=>K (.row k 0 z 0 0) ((k,s,.rw z [])::M) else False
 | .pick c a b=>match ex tm c with
  | .bool true=>fV (ex tm a) λ v=>K v M
  | .bool false=>fV (ex tm b) λ v=>K v M
  | _=>False
 | .bin op x y=>match ex tm x,ex tm y with
  | .int k a,.int k' b=>Y6 op k a k' b λ v=>K v M
  | _,_=>False
 | .beq ne x y=>match ex tm x,ex tm y with
  | .bool a,.bool b=>fB (bif ne then !(a == b) else a == b) λ c=>K (.bool c) M
  | _,_=>False
 | .un op x=>match ex tm x with
  | .int k n=>DW op k n λ v=>K v M
  | .bool b=>match op with
   | .not=>fB (!b) λ c=>K (.bool c) M
   | _=>False
  | _=>False
 | .conv k x=>match ex tm x with
  | .int _ n=>A0 k n λ v=>K (.int k v) M
  | _=>False
 | .box s x=>fC (ex tm x) λ cs=>FS s tm M λ k=>K (.ptr k 0 0 0) ((k,s,.bx cs)::M)
 | .alloc s zero=>bif D7 zero then (FS s tm M λ k=>K (.ptr k 0 0 0) ((k,s,.bx zero)::M)) else False
 | .build zero parts=>bif D7 zero then aJ tm parts zero λ cs=>K (.agg cs) M else False
 | .c4 s z parts=>bif EU s then Y9 tm z parts λ es=>UJ es λ n=>FS s tm M λ k=>bif TU es then K (.row k 0 z 0 n) ((k,s,.rw z es)::M) else K (.row k 0 z 0 n) ((k,s,.bs z es)::M) else False
 | .a5 x off=>match ex tm x with
  | .ptr key t i j=>K (.ptr key t i (j+off)) M
  | .s8 cs=>fL (cs.drop off) λ cs=>K (.s8 cs) M
  | _=>False
 | .lg x off n agg=>match ex tm x with
  | .agg cs=>match part cs off n with
   | some ds=>fL ds λ ds=>nr agg ds λ v=>K v M
   | none=>False
  | _=>False
 | .a7 arr z x i=>match ex tm i with
  | .int _ n=>match arr,ex tm x with
   | some len,.ptr key t i' j=>AQ (0<=n/\n<(len:Int)) (K (.ptr key t i' (j+n.toNat*z)) M)
   | some len,.s8 cs=>AQ (0<=n/\n<(len:Int)) (fL (cs.drop (n.toNat*z)) λ cs=>K (.s8 cs) M)
   | none,.row key t z' off len=>bif Nat.beq z' z then AQ (0<=n/\n<(len:Int)) (K (.ptr key t (off+n.toNat) 0) M) else False
   | none,.sl _ es=>AW es n z λ cs=>K (.s8 cs) M
   | _,_=>False
  | _=>False
 | .ld agg n x=>match ex tm x with
  | .ptr key t i j=>match c8 M key with
   | some (s,c)=>match t with
    | 0=>bif PN s c5 then (match c with
     | .bx cs=>bif Nat.beq i 0 then (match part cs j n with
      | some ds=>fL ds λ ds=>nr agg ds λ v=>K v M
      | none=>False) else False
     | .rw _ es=>A9 es i j n λ ds=>fL ds λ ds=>bif D7 ds then nr agg ds λ v=>K v M else False
     | .bs _ es=>(match es[i]? with
      | some cs=>(match part cs j n with
       | some ds=>fL ds λ ds=>nr agg ds λ v=>K v M
       | none=>False)
      | none=>False)
     | .mx rows=>bif Nat.beq j 0 then bif Nat.beq n 1 then D6 rows i λ r=>match r with
      | some (z,es)=>nr agg [.row key (i+1) z 0 es.length] λ v=>K v M
      | none=>nr agg [.nil] λ v=>K v M else False else False
     | .hx _ _ _=>False
     | .vw _ _=>False) else False
    | i'+1=>match c,c5 with
     | .mx rows,[]=>C3 rows i' λ_ es=>A9 es i j n λ ds=>fL ds λ ds=>bif D7 ds then nr agg ds λ v=>K v M else False
     | .mx rows,b::r=>bif QX (b::r) then C3 rows i' λ_ es=>A9 es i j n λ ds=>fL ds λ ds=>bif D7 ds then nr agg ds λ v=>K v M else False else False
     | _,_=>False
   | none=>False
  | .s8 cs=>match part cs 0 n with
   | some ds=>fL ds λ ds=>bif D7 ds then nr agg ds λ v=>K v M else False
   | none=>False
  | _=>False
 | .st n x v=>dL tm M K n x v
 | .kz s n x v=>match ex tm x with
  | .ptr key 0 _ _=>(match c8 M key with
   | some (s',_)=>bif Nat.beq s' s then dL tm M K n x v else False
   | none=>False)
  | _=>False
 | .l9 f xs=>SC tm xs λ vs=>bif vs.all dq then AB L f (vs.map rq) λ r=>B9 r λ r=>K r M else False
 | .mk s z bytes zero l c=>match ex tm l,ex tm c with
  | .int _ a,.int _ b=>bif Nat.beq zero.length z then bif D7 zero then match zero with
   | [.nil]=>bif EU s then FE a b bytes λ rows n=>FS s tm M λ k=>K (.row k 0 z 0 n) ((k,s,.mx rows)::M) else False
   | zero=>bif EU s then (CO a b bytes zero λ es n=>FS s tm M λ k=>K (.row k 0 z 0 n) ((k,s,.rw z es)::M)) else False else False else False
  | _,_=>False
 | .ew z x lo hi=>XN tm lo λ lo=>XN tm hi λ hi=>match ex tm x with
  | .sl l es=>C7 z es lo hi λ es=>K (.sl l es) M
  | .row key t z' off len=>bif Nat.beq z' z then CD lo hi len λ a h=>K (.row key t z (off+a) (h-a)) M else False
  | .nil=>(match lo,hi with
   | none,none=>K .nil M
   | some a,none=>AQ (a=0) (K .nil M)
   | none,some h=>AQ (h=0) (K .nil M)
   | some a,some h=>AQ (a=0/\h=0) (K .nil M))
  | _=>False
 | .ext x i=>match ex tm x with
  | .j4 vs=>f2 (tp vs i) λ v=>K v M
  | _=>False
 | .len x=>match ex tm x with
  | .sl _ es=>AM es λ n=>K (.int .i64 (n:Int)) M
  | .nil=>K (.int .i64 0) M
  | .row _ _ _ _ n=>K (.int .i64 (n:Int)) M
  | _=>False
 | .mm mx xs=>match PF tm xs with
  | .int k a::r=>QU mx k (λ v=>K v M) a r
  | _=>False
 | .app s z bytes x y=>bif Nat.ble 800000 s then Y4 tm M s z bytes x y K else (
  match P8 M (ex tm y) with
  | some (ky,some (k2,z2,n2))=>match ex tm x with
   | .row key 0 z' off len=>bif Nat.beq off 0 then bif Nat.beq z' 1 then bif Nat.beq z 1 then bif Nat.beq key k2 then False else bif Nat.beq key ky then False else bif Nat.beq k2 ky then False else (match c8 M k2 with
    | some (_,.rw z3 es)=>bif Nat.beq z2 z3 then (match c8 M key with
     | some (s',.mx rows)=>fM (o5 key (o5 k2 (o5 ky M))) λ M'=>AQ (n2=es.length) (BP rows len (some (z2,es)) bytes λ du n=>FS s tm M λ k=>K (.row k 0 z 0 n) ((k,s',.mx du)::M'))
     | _=>False) else False
    | _=>False) else False else False else False
   | .nil=>bif EU s then bif Nat.beq z 1 then (match c8 M k2 with
    | some (_,.rw z3 es)=>bif Nat.beq z2 z3 then fM (o5 k2 M) λ M'=>AQ (n2=es.length/\bytes<=140737488355328) (FS s tm M λ k=>K (.row k 0 z 0 1) ((k,s,.mx [some (z2,es)])::M')) else False
    | _=>False) else False else False
   | _=>False
  | some (ky,none)=>match ex tm x with
   | .row key 0 z' off len=>bif Nat.beq off 0 then bif Nat.beq z' 1 then bif Nat.beq z 1 then bif Nat.beq key ky then False else (match c8 M key with
     | some (s',.mx rows)=>fM (o5 key M) λ M'=>BP rows len none bytes λ du n=>FS s tm M λ k=>K (.row k 0 z 0 n) ((k,s',.mx du)::M')
     | _=>False) else False else False else False
   | .nil=>bif EU s then bif Nat.beq z 1 then AQ (bytes<=140737488355328) (FS s tm M λ k=>K (.row k 0 z 0 1) ((k,s,.mx [none])::M)) else False else False
   | _=>False
  | none=>WS M (ex tm y) λ ys=>match ex tm x with
   | .row key 0 z' off len=>bif Nat.beq off 0 then bif Nat.beq z' z then (match c8 M key with
    | some (s',.rw az es)=>bif Nat.beq az z then fM (o5 key M) λ M'=>(AX es len ys z bytes λ es' n=>FS s tm M λ k=>K (.row k 0 z 0 n) ((k,s',.rw z es')::M')) else False
    | _=>False) else False else False
   | .row key (i+1) z' off len=>bif Nat.beq off 0 then bif Nat.beq z' z then (match c8 M key with
    | some (sk,.mx rows)=>fM (o5 key M) λ M'=>C3 rows i λ az es=>bif Nat.beq az z then (AX es len ys z bytes λ es' n => ∀ s' v,FS s tm M λ k=>K (.row k 0 z 0 n) ((k,s',.rw z es')::(key,sk,.hx i v (rows.set i none))::M')) else False
    | _=>False) else False else False
   | .nil=>bif EU s then BI ys z bytes λ es n=>FS s tm M λ k=>K (.row k 0 z 0 n) ((k,s,.rw z es)::M) else False
   | _=>False)
 | .v9 s z bytes x y=>match ex tm y with
  | .sl _ ys=>match ex tm x with
   | .row key 0 z' off len=>bif Nat.beq off 0 then bif Nat.beq z' z then (match c8 M key with
    | some (s',.rw az es)=>bif Nat.beq s' s then bif Nat.beq az z then fM (o5 key M) λ M'=>(AX es len ys z bytes λ es' n=>FS s tm M λ k=>K (.row k 0 z 0 n) ((k,s',.rw z es')::M')) else False else False
    | _=>False) else False else False
   | .nil=>bif EU s then BI ys z bytes λ es n=>FS s tm M λ k=>K (.row k 0 z 0 n) ((k,s,.rw z es)::M) else False
   | _=>False
  | _=>False
 | .call f xs=>U8 tm M c5 xs λ vs=>AB L f vs λ r=>K r M
 | .e8 f xs=>SC tm xs λ vs=>BA L f vs tm M K
 | .m6 s f xs=>bif EU s then dE tm M c5 xs λ vs=>CF L f vs λ z es n=>FS s tm M λ k=>K (.row k 0 z 0 n) ((k,s,.rw z es)::M) else False
 | .oi ne x=>match ex tm x with
  | .nil=>fB (xor true ne) λ c=>K (.bool c) M
  | .bh (.bool b)=>fB (xor b ne) λ c=>K (.bool c) M
  | .sl _ es=>AQ (es≠[]) (fB (xor false ne) λ c=>K (.bool c) M)
  | .row _ _ _ _ n=>AQ (0<n) (fB (xor false ne) λ c=>K (.bool c) M)
  | _=>False
 | .bad=>False
 | .bg s f xs=>SC tm xs λ vs=>match vs with
  | .ptr key 0 0 0::rest=>bif W6 rest then tT L s f key rest M K else False
  | _=>False
 | .eu tb x=>match ex tm x with
  | .int _ n=>P6 tb n λ v=>K (.int .u8 v) M
  | _=>False
 | .mh p f xs=>bV tm xs λ cs=>K (.fn (p&&cs.isEmpty) f (L.num f) cs) M
 | .o0 x xs=>match ex tm x with
  | .fn true f g []=>AQ (g=L.num f) (U8 tm M [] xs λ vs=>AB L f vs λ r=>K r M)
  | .fn true f g (c::cs)=>AQ (g=L.num f) (N9 true M [] (.agg (c::cs)) λ v=>U8 tm M [] xs λ vs=>AB L f (v::vs) λ r=>K r M)
  | .fn false f g cs=>bif US cs then AQ (g=L.num f) (SC tm xs λ vs=>fL (vs++cs) λ vs=>BA L f vs tm M K) else False
  | _=>False
def zj (key:Nat):Tm->Tm
 | []=>[]
 | (j,v)::r=>bif PA key v then (j,.any)::zj key r else (j,v)::zj key r
def xk (v:AV) (tm:Tm) (K:Tm->Prop):Prop:=match v with
 | .row key (_+1) _ _ _=>fT (zj key tm) K
 | _=>K tm
noncomputable def XI (L:Lib) (o:AI) (ih:(Tm->Mem->Prop)->Tm->Mem->Prop) (K:Tm->Mem->Prop) (tm:Tm) (M:Mem):Prop:=match o with
 | ⟨some d,.app s z b x y,none,c5⟩=>XE L tm M c5 (λ v M=>xk (ex tm x) tm λ tm=>ih K ((d,v)::tm) M) (.app s z b x y)
 | ⟨some d,op,none,c5⟩=>XE L tm M c5 (λ v M=>ih K ((d,v)::tm) M) op
 | ⟨none,op,none,c5⟩=>XE L tm M c5 (λ_ M=>ih K tm M) op
 | ⟨dst,op,some (g,w),c5⟩=>match tg tm g with
  | .bool b=>fB (b == w) λ c=>match c,dst with
   | true,some d=>XE L tm M c5 (λ v M=>ih K ((d,v)::tm) M) op
   | true,none=>XE L tm M c5 (λ_ M=>ih K tm M) op
   | false,some d=>ih K ((d,.j4 [])::tm) M
   | false,none=>ih K tm M
  | .j4 []=>match dst with
   | some d=>ih K ((d,.j4 [])::tm) M
   | none=>ih K tm M
  | _=>False
noncomputable def XO (L:Lib) (l:List AI):(Tm->Mem->Prop)->Tm->Mem->Prop :=
 List.rec (motive:=λ_=>(Tm->Mem->Prop)->Tm->Mem->Prop) (λ K tm M=>K tm M) (λ o _ ih K tm M=>XI L o ih K tm M) l
noncomputable def XS (L:Lib) (Q:Tm->Mem->Prop) (ih:List It->Tm->Mem->Prop) (k:List It) (tm:Tm) (M:Mem):Prop:=match k with
 | []=>Q tm M
 | it::k=>match it with
  | .e6 _=>ih k tm M
  | .lf ts ss=>fN (mask 0 ts) λ m=>fT (ry m tm) λ tm=>match ss with
   | []=>ih k tm M
   | _::_=>False
  | .lp c=>AA L (.lp c::k) tm M Q
  | .code c=>match c with
   | .skip=>ih k tm M
   | .ops l _=>XO L l (λ tm M=>ih k tm M) tm M
   | .dr c ts ss=>ih (.code c :: .lf ts ss::k) tm M
   | .scope c=>ih (.code c::k) tm M
   | .seq a b=>ih (.code a :: .code b::k) tm M
   | .cond x a b=>match ex tm x with
    | .bool b'=>fB b' λ c=>match c with
     | true=>ih (.code a::k) tm M
     | false=>ih (.code b::k) tm M
    | _=>False
   | .block id c=>ih (.code c :: .e6 id::k) tm M
   | .loop c=>AA L (.lp c::k) tm M Q
   | .exit id=>match FG id k with
    | some k'=>ih k' tm M
    | none=>False
   | .ret=>Q tm M
noncomputable def XK (L:Lib) (Q:Tm->Mem->Prop) (n:Nat):List It->Tm->Mem->Prop :=
 Nat.rec (motive:=λ_=>List It->Tm->Mem->Prop) (λ k tm M=>AA L k tm M Q) (λ_ ih k tm M=>XS L Q ih k tm M) n
def Q3 (tm:Tm) (M:Mem) (r:IV) (K:AV->Prop):Prop:=match r with
 | .tmp t=>f2 (tg tm t) K
 | .cell t agg n=>match tg tm t with
  | .ptr key 0 i j=>match c8 M key with
   | some (_,.bx cs)=>bif Nat.beq i 0 then (match part cs j n with
    | some ds=>fL ds λ ds=>nr agg ds K
    | none=>False) else False
   | _=>False
  | _=>False
noncomputable def XY (tm:Tm) (M:Mem) (l:List IV):(List AV->Prop)->Prop :=
 List.rec (motive:=λ_=>(List AV->Prop)->Prop) (λ K=>K []) (λ x _ ih K=>Q3 tm M x λ v=>ih λ vs=>K (v::vs)) l
noncomputable def dB (q:Bool) (M:Mem) (l:List AV):(List AV->Prop)->Prop :=
 List.rec (motive:=λ_=>(List AV->Prop)->Prop) (λ K=>K []) (λ x _ ih K=>N9 q M [] x λ v=>ih λ vs=>K (v::vs)) l
def Ki (vs:List AV) (K:AV->Prop):Prop:=match vs with
 | [v]=>K v
 | vs=>K (.j4 vs)
def AJ (a r:AV):Prop:=a=r/\A6 r
noncomputable def NQ (fn:AFn) (r:AV) (tm:Tm) (M:Mem):Prop:=XY tm M fn.res λ vs=>dB false M vs λ vs=>Ki vs λ v=>AJ v r
end Go.e9
