/-
  Functions: what the abstract machine says of a call, the model does.
-/
import Derived.Test.YtcoldcgafbbjoaaGreatB4
import Derived.Test.YtcoldcgafbbjoaaGreatB1
import Derived.IntWalk
set_option linter.unusedSimpArgs false
set_option linter.unusedVariables false
set_option linter.unnecessarySimpa false
namespace Go.g6
open Go.RowKit
section
variable {P:Program} {num:Nat->Nat} {L:Lib}
def ProgOK (P : Program) (num : Nat → Nat) (L : Lib) : Prop := (∀ f fa, L f = some fa → ∃ fn, P.funcs[num f]? = some fn ∧ okFn P num fn fa = true ∧ (fn.name == "runtime.NumGoroutine") = false) ∧ L.num = num
theorem qB : ∀ (args:List AV) (k i:Nat),j4 (CY k args) i=if k<=i then (match args[i-k]? with|some v=>v|none => .any) else .any
 | [],k,i=>by simp [CY,j4]
 | v::r,k,i=>by
  simp only[CY,j4];by_cases h:i=k
  ·subst h;simp
  ·rw[if_neg h,qB r (k+1) i]
   by_cases h2:k<=i
   ·rw[if_pos h2,if_pos (by omega)]
    have:i-k=(i-(k+1))+1:=by omega
    rw[this];simp
   ·rw[if_neg h2,if_neg (by omega)]
section
variable {B:Nat} {S:Nat->Prop} {w0:World} {m0:M} {N:Nat}
def ZP (tmps:Array Value):ResultVar->Sem Value
 | .tmp t=>pure (tmps.getD t undef)
 | .cell x t=>do loadVar t (<-asAddr (tmps.getD x undef))
theorem Sv {m:M} {x v:AV} {u:Value} (h:JB x=some v) (aj:CV B S m x u):CA B S m v u:=by
 cases aj with
 | any=>simp [JB]at h
 | g9=>simp [JB]at h
 | ca hc =>
  have:x=v:=by
   cases hc with
   | one hc=>cases hc with
    | rd hr=>cases hr<;>simpa [JB] using h
    | _=>simpa [JB] using h
   | fn=>simpa [JB] using h
   | wg=>simpa [JB] using h
   | agg=>simpa [JB] using h
  subst this;exact hc
theorem gQ {m:M} {a:Act} {st:St} (hf:FP B S w0 m0 N (j4 st.tm) m a) (l8:m.own=st.own) : ∀ {rv:List ResultVar} {ra:List I0} {vs:List AV},MC P rv ra=true->ra.mapM (EU st)=some vs ->
  ∃ us:List Value,(rv.mapM (ZP a.tmps)).run P m.w = .ok us m.w/\vs.length=us.length /\ ∀ (j:Nat) (c:AV) (v:Value),vs[j]? = some c->us[j]? = some v->CA B S m c v
 | [],[],vs,_,h=>by
  simp at h;subst h;exact ⟨[],by simp,rfl,λ j c v hc=>by simp at hc⟩
 | .tmp t::r,.tmp t'::l,vs,k6,h=>by
  simp only[MC,Bool.and_eq_true,beq_iff_eq]at k6;obtain ⟨rfl,k6⟩:=k6;simp only[List.mapM_cons,Option.bind_eq_bind,Option.pure_def]at h;cases hv:EU st (.tmp t) with
  | none=>simp [hv]at h
  | some v =>
   cases hr:l.mapM (EU st) with
   | none=>simp [hv,hr]at h
   | some vr =>
    simp [hv,hr]at h;subst h;obtain ⟨us,h1,h2,h3⟩:=gQ hf l8 k6 hr;have aj:=hf.tm t;have nf:CA B S m v (a.tmps.getD t undef):=Sv hv aj;refine ⟨a.tmps.getD t undef::us,?_,by simp [h2],λ j c u hc hu => ?_⟩
    ·simp only[List.mapM_cons,Sem.run_bind,ZP,Sem.run_pure,Result.andThen_ok,h1]
    ·cases j with
     | zero =>
      obtain rfl:v=c:=by simpa using hc
      obtain rfl:a.tmps.getD t undef=u:=Option.some.inj hu;exact nf
     | succ j=>exact h3 j c u (by simpa using hc) (by simpa using hu)
 | .cell x t::r,.cell x' agg n::l,vs,k6,h=>by
  simp only[MC,Bool.and_eq_true,beq_iff_eq]at k6;obtain ⟨⟨⟨rfl,jo⟩,hn⟩,k6⟩:=k6;simp only[List.mapM_cons,Option.bind_eq_bind,Option.pure_def]at h;cases hv:EU st (.cell x agg n) with
  | none=>simp [hv]at h
  | some v =>
   cases hr:l.mapM (EU st) with
   | none=>simp [hv,hr]at h
   | some vr =>
    simp [hv,hr]at h;subst h;obtain ⟨us,h1,h2,h3⟩:=gQ hf l8 k6 hr;have aj:=hf.tm x;simp only[EU]at hv;split at hv
    ·rename_i s u i j hx
     rw[hx]at aj;split at hv
     ·rename_i cs gk
      rw[<-l8]at gk;obtain ⟨ad,bz,ht,hb⟩:=SY aj;obtain ⟨b,g,arr,e,s9,hg,dh,mc,u9,jb⟩:=sU hf.mem gk;obtain ⟨Amn,gl⟩:=ZA hv u9;have hld:=gT (P:=P) t agg n (bB (by simpa using jo)) (by
       cases agg
       ·simpa using hn
       ·exact NQ (by simpa using hn)) ad dh mc m.w (λ q u' hq=>by
       have o7:q<dh.length:=(zS hq).1;obtain ⟨Cr,jk⟩:=hg (by omega);obtain ⟨g',fy,rfl⟩:=hb b s9;obtain rfl:g=g':=by rw[Cr]at fy;simpa using fy
       rw[HB,XR jk];exact jb q u' hq)
      have Lw:(ZP a.tmps (.cell x t)).run P m.w = .ok (if agg then .agg dh.toArray else dh.getD 0 undef) m.w:=by
       show (do loadVar t (<-asAddr (a.tmps.getD x undef)):Sem Value).run P m.w=_;rw[bz];simpa [asAddr,Instr.loadAt,Instr.sureAddr] using hld
      have nf:CA B S m v (if agg then .agg dh.toArray else dh.getD 0 undef):=by
       unfold JV at hv;cases agg with
       | true =>
        simp only[if_true,Option.some.injEq]at hv;subst hv;exact .agg cs dh u9
       | false =>
        simp only[Bool.false_eq_true,if_false]at hv ⊢;split at hv
        ·rename_i c
         simp only[Option.some.injEq]at hv;subst hv;obtain ⟨u',mu,ax⟩:=SX u9 (j:=0) (c:=c) rfl;simp only[List.getD,mu,Option.getD_some];exact .one ax
        ·cases hv
      refine ⟨(if agg then .agg dh.toArray else dh.getD 0 undef)::us,?_,by simp [h2],λ j' c u' hc hu => ?_⟩
      ·rw[List.mapM_cons,Sem.run_bind,Lw,Result.andThen_ok,Sem.run_bind,h1,Result.andThen_ok]
       rfl
      ·cases j' with
       | zero =>
        obtain rfl:v=c:=by simpa using hc
        obtain rfl:=Option.some.inj hu;exact nf
       | succ j'=>exact h3 j' c u' (by simpa using hc) (by simpa using hu)
     ·cases hv
    ·cases hv
 | [],_::_,_,k6,_=>by simp [MC]at k6
 | .tmp _::_,[],_,k6,_=>by simp [MC]at k6
 | .cell _ _::_,[],_,k6,_=>by simp [MC]at k6
 | .tmp _::_,.cell _ _ _::_,_,k6,_=>by simp [MC]at k6
 | .cell _ _::_,.tmp _::_,_,k6,_=>by simp [MC]at k6
end
theorem kS (hP:ProgOK P num L) {f:Nat} {fa:AFn} (hL:L f=some fa) (us:Array Value) (w:World):(callFunc (num f) us).run P w = .ok (.enter (num f) us) w:=by
 obtain ⟨fn,h1,h2,h3⟩:=hP.1 f fa hL;have hb:fn.body.isNone=false:=by
  simp only[okFn,Bool.and_eq_true]at h2;cases zb:fn.body with
  | none=>rw[zb]at h2;simp at h2
  | some c=>rfl
 unfold callFunc;simp only[Sem.run_bind,run_program,Result.andThen_ok,h1,h3,hb,Bool.false_eq_true,if_false,Sem.run_pure]
theorem qC (hP:ProgOK P num L) {n:Nat} (hC:GX P num (CM L n)) {f:Nat} {vs:List AV} {own:AH} {r:AV} {n0:AH} (h:DD L (n+1) f vs own=some (r,n0)) (B:Nat) (S:Nat->Prop) (w0:World) (m:M) (us:List Value) (l8:m.own=own) (hm:BP B S w0 m) (hl:vs.length=us.length)
  (aj : ∀ (j:Nat) (c:AV) (v:Value),vs[j]? = some c->us[j]? = some v->CV B S m c v) :
  Calls P (num f) us.toArray m.w λ e w' => ∃ u m',e = .returned u/\m'.w=w'/\m'.own=n0/\BP B S w0 m'/\DM B S m m'/\CV B S m' r u:=by
 rw[S5]at h;cases hL:L f with
 | none=>simp [hL]at h
 | some fa =>
  simp only[hL]at h;split at h
  ·rename_i Gy
   split at h
   ·rename_i st w4
    split at h
    ·rename_i Rg Da
     simp only[Option.some.injEq,Prod.mk.injEq]at h;obtain ⟨rfl,rfl⟩:=h;obtain ⟨fn,h1,h2,h3⟩:=hP.1 f fa hL;simp only[okFn,Bool.and_eq_true,beq_iff_eq,decide_eq_true_eq]at h2;obtain ⟨⟨⟨h4,h5⟩,h6⟩,h7⟩:=h2;split at h7
     ·rename_i c hc
      intro cs;have Co:Frame.enter P (num f) us.toArray .normal=({ (default:Frame) with fn:=num f,kind := .normal }:Frame).at { tmps:=us.toArray++Array.replicate (fn.ntmps-us.toArray.size) undef,defers:=[] } [.code c]:=by
       simp [Frame.enter,Frame.at,h1,hc]
      have ag:us.length=fa.de:=by rw[<-hl];exact Gy
      have Li:FP B S w0 m fn.ntmps (j4 (CY 0 vs)) m { tmps:=us.toArray++Array.replicate (fn.ntmps-us.toArray.size) undef,defers:=[] }:=by
       refine ⟨hm,DM.refl m,λ i => ?_,by simp;omega,rfl⟩;rw[qB];simp only[Nat.zero_le,if_true,Nat.sub_zero];cases Qh:vs[i]? with
       | none=>exact .any _
       | some v =>
        have hi:i<us.length:=by rw[<-hl];exact (zS Qh).1
        have s9:(us.toArray++Array.replicate (fn.ntmps-us.toArray.size) undef).getD i undef=us[i]:=by
         rw[Array.getD_eq_getD_getElem?,Array.getElem?_append_left (by simpa using hi)];simp [hi]
        simp only[s9];exact aj i v us[i] Qh (zE hi)
      obtain ⟨a',m',q7,De,ma,od⟩:=Af9 (m0:=m) hC { (default:Frame) with fn:=num f,kind := .normal } cs n [.code fa.body] ⟨CY 0 vs,own⟩ st w4 [.code c] (.code h7 .nil) m _ l8 Li;obtain ⟨yq,hu1,Ef,Qf⟩:=gQ (P:=P) od ma h6 Da;have zn:(results fn a'.tmps).run P m'.w = .ok (if h:yq.length=1 then yq[0] else .tuple yq.toArray) m'.w:=by
       have hr:results fn a'.tmps=(do let vs <-fn.results.mapM (ZP a'.tmps);pure (if h:vs.size=1 then vs[0] else .tuple vs)):=rfl;rw[hr,Sem.run_bind,Array.mapM_eq_mapM_toList];simp [hu1]
      refine ⟨.returned (if h:yq.length=1 then yq[0] else .tuple yq.toArray),m'.w,_,⟨_,m',rfl,rfl,ma,od.mem,od.ext,?_⟩,by rw[Co];exact De,rfl,rfl,od.defers,rfl,fn,h1,zn⟩;unfold IP;split
      ·rename_i v
       have Fa:yq.length=1:=by rw[<-Ef];rfl
       rw[dif_pos Fa];exact .ca (Qf 0 v yq[0] rfl (zE (by omega)))
      ·rename_i n9
       have Fa : ¬ yq.length=1:=λ e=>by
        rw[<-Ef]at e;cases Rg with
        | nil=>simp at e
        | cons q qs=>cases qs with
         | nil=>exact n9 q rfl
         | cons=>simp at e
       rw[dif_neg Fa];exact .g9 Rg yq Ef Qf
     ·cases h7
    ·cases h
   ·cases h
  ·cases h
theorem AeW (S:Nat->Prop) (w:World):BP w.heap.size S w ⟨λ_ _=>none,AH.emp,w⟩ :=
 ⟨Below.refl _ _,Nat.le_refl _,λ_ _ _=>rfl,λ s t b h=>by simp [AH.get,AH.emp]at h,λ s t s' t' b b' g h=>by simp [AH.get,AH.emp]at h⟩
theorem nM {n f:Nat} {vs:List AV} {own:AH} {r:AV × AH} (h:DD L n f vs own=some r) : ∃ fa,L f=some fa:=by
 cases n with
 | zero=>simp [DD]at h
 | succ n =>
  rw[S5]at h;cases hL:L f with
  | none=>simp [hL]at h
  | some fa=>exact ⟨fa,rfl⟩
theorem gK {n f:Nat} {vs:List AV} {r:AV} (h:IG (λ vs=>DD L n f vs AH.emp) vs=some r) : ∃ r0 o,DD L n f vs AH.emp=some (r0,o)/\QD o false r0=some r/\A7 r:=by
 unfold IG at h;cases he:DD L n f vs AH.emp with
 | none=>simp [he]at h
 | some x =>
  obtain ⟨r0,o⟩:=x;simp only[he]at h;split at h
  ·rename_i r' hr
   split at h
   ·rename_i hc
    simp only[Option.some.injEq]at h;subst h;exact ⟨r0,o,rfl,hr,hc⟩
   ·cases h
  ·cases h
theorem cU {n f:Nat} {vs:List AV} {r:AV} (h:GZ L n f vs=some r) : ∃ dh,∃ x,DD L n f dh AH.emp=some x:=by
 unfold GZ KW at h;split at h
 ·split at h
  ·rename_i r1 r2 h1 h2
   obtain ⟨r0,o,h3,_⟩:=gK h1;exact ⟨_,_,h3⟩
  ·cases h
 ·obtain ⟨r0,o,h3,_⟩:=gK h
  exact ⟨_,_,h3⟩
theorem gL (hP:ProgOK P num L) {n:Nat} (ih:GX P num (CM L n)) {f:Nat} {vs:List AV} {r:AV} (h:IG (λ vs=>DD L (n+1) f vs AH.emp) vs=some r) (S:Nat->Prop) (w:World) (us:List Value) (hl:vs.length=us.length)
  (nf : ∀ (j:Nat) (c:AV) (v:Value),vs[j]? = some c->us[j]? = some v->CA w.heap.size S ⟨λ_ _=>none,AH.emp,w⟩ c v) :
  Calls P (num f) us.toArray w λ e w' => ∃ u,e = .returned u/\Below w.heap.size w w'/\CV w.heap.size S ⟨λ_ _=>none,AH.emp,w'⟩ r u/\A7 r:=by
 obtain ⟨r0,o,h1,h2,h3⟩:=gK (L:=L) h;refine Calls.mono (qC hP ih h1 w.heap.size S w ⟨λ_ _=>none,AH.emp,w⟩ us rfl (AeW S w) hl λ j c v hc hv => .ca (nf j c v hc hv)) λ e w' ⟨u,m',he,hw,l8,nh,_,aj⟩ => ?_
 subst hw;refine ⟨u,he,nh.below,?_,h3⟩;refine DV.cv (m:=⟨λ_ _=>none,AH.emp,m'.w⟩) (Ag7 nh false (safe w.heap.size S ⟨λ_ _=>none,AH.emp,m'.w⟩) (λ l b hb hs => ?_) (λ s t g ko hg => ?_) (by rw[l8];exact h2) aj)
 ·rcases hs with h|⟨h,_⟩|h
  ·exact .inl h
  ·exact .inr (.inl ⟨h,λ s t ko=>by simp [AH.get,AH.emp]at ko⟩)
  ·exact .inr (.inr h)
 ·exact .inr (.inl ⟨(nh.ge ko hg).1,λ s t ko=>by simp [AH.get,AH.emp]at ko⟩)
theorem Sx (hP:ProgOK P num L) : ∀ n,GX P num (CM L n):=by
 intro n;induction n with
 | zero =>
  exact ⟨λ f vs r h=>by obtain ⟨dh,x,h1⟩:=cU (L:=L) (n:=0) (f:=f) (vs:=vs) (r:=r) h;simp [DD]at h1,λ f vs own r h=>by change DD L 0 f vs own=some r at h;simp [DD]at h,
   λ f vs r h=>by obtain ⟨dh,x,h1⟩:=cU (L:=L) (n:=0) (f:=f) (vs:=vs) (r:=r) h;simp [DD]at h1,λ f vs own r n0 h=>by change DD L 0 f vs own=_ at h;simp [DD]at h,hP.2⟩
 | succ n ih =>
  refine ⟨λ f vs r h us w => ?_,λ f vs own r h us w => ?_,λ f vs r h S w us hl nf => ?_,λ f vs own r n0 h B S w0 m us l8 hm hl aj=>qC hP ih h B S w0 m us l8 hm hl aj,hP.2⟩
  ·obtain ⟨dh,x,h1⟩:=cU (L:=L) h
   obtain ⟨fa,hL⟩:=nM h1;exact kS hP hL us w
  ·obtain ⟨fa,hL⟩:=nM (L:=L) h
   exact kS hP hL us w
  ·have h:KW (L.ry f) (λ vs=>DD L (n+1) f vs AH.emp) vs=some r:=h
   unfold KW at h;split at h
   ·rename_i q dh _ _
    split at h
    ·rename_i r1 r2 h1 h2
     split at h
     ·rename_i e
      subst e;obtain rfl:=Option.some.inj h;cases us with
      | nil=>simp at hl
      | cons u us =>
       have h0:=nf 0 _ u rfl rfl;have hu : ∃ a cap,u = .slice a 0 cap:=by
        cases h0 with
        | one h0=>cases h0 with
         | rd h0=>cases h0 with
          | ke l a cap=>exact ⟨a,cap,rfl⟩
          | sl l es b o a9 cap u n9=>exact absurd rfl n9
       obtain ⟨a,cap,rfl⟩:=hu;have key : ∀ b,a.isNone=b -> ∀ (j:Nat) (c:AV) (v:Value),(AV.dm (.bool b)::dh)[j]? = some c->(Value.slice a 0 cap::us)[j]? = some v->CA w.heap.size S ⟨λ_ _=>none,AH.emp,w⟩ c v:=λ b hb j c v hc hv=>by
        cases j with
        | zero =>
         obtain rfl:=Option.some.inj hc;obtain rfl:=Option.some.inj hv;exact .one (.rd (.emp b a cap hb))
        | succ j=>exact nf (j+1) c v hc hv
       cases hb:a.isNone with
       | true=>exact gL hP ih h1 S w _ (by simpa using hl) (key true hb)
       | false=>exact gL hP ih h2 S w _ (by simpa using hl) (key false hb)
     ·cases h
    ·cases h
   ·exact gL hP ih h S w us hl nf
end
end Go.g6
namespace Go.g6
abbrev OkF (P : Program) (num : Nat → Nat) (p : Nat × AFn) : Prop := ∃ fn, P.funcs[num p.1]? = some fn ∧ okFn P num fn p.2 = true ∧ (fn.name == "runtime.NumGoroutine") = false
theorem Afz {P:Program} {num:Nat->Nat} (l:List (Nat × AFn)) (h : ∀ p∈l,OkF P num p):ProgOK P num ⟨λ f=>l.lookup f,num⟩:=by
 refine ⟨?_,rfl⟩;intro f fa hf;have hm:(f,fa)∈l:=by
  clear h;change l.lookup f=some fa at hf;induction l with
  | nil=>simp at hf
  | cons x r ih =>
   obtain ⟨k,v⟩:=x;rw[List.lookup_cons]at hf;cases hk:(f == k) with
   | true =>
    rw[hk]at hf;have:f=k:=by simpa using hk
    subst this;simp at hf;simp [hf]
   | false =>
    rw[hk]at hf;exact List.mem_cons_of_mem _ (ih hf)
 exact h (f,fa) hm
end Go.g6
namespace Go.g6
section
variable {L:Lib}
def Cl.le (C C':Cl):Prop:=(∀ f vs r,C.pure f vs=some r->C'.pure f vs=some r)/\(∀ f vs o r,C.fp f vs o=some r->C'.fp f vs o=some r)/\C.num=C'.num
theorem kI {x y:Option (AV × AH)} {r:Nat × List (List AV)} (h : ∀ q,x=some q->y=some q) (hr:OO x=some r):OO y=some r:=by
 cases x with
 | none=>simp [OO]at hr
 | some q=>rw[h q rfl];exact hr
theorem Xa {C C':Cl} (h:C.le C') {b9:List Nat} {ρ:AP->AV} {own:AH} {op:DP} {E:BU} (he:g7 C b9 ρ own op=some E):g7 C' b9 ρ own op=some E:=by
 cases op with
 | call f xs =>
  simp only[g7]at he ⊢;split at he
  ·rename_i vs jb
   simp only[Option.map_eq_some_iff]at he ⊢;obtain ⟨r,hr,rfl⟩:=he;exact ⟨r,h.1 f vs r hr,rfl⟩
  ·cases he
 | c9 f xs =>
  simp only[g7]at he ⊢;split at he
  ·simp only[Option.map_eq_some_iff]at he ⊢
   obtain ⟨p,hp,rfl⟩:=he;have h1:=XN hp;exact ⟨p,XM h1.1 λ o ho=>h.2.1 f _ o _ (h1.2 o ho),rfl⟩
  ·simp only[Option.map_eq_some_iff]at he ⊢
   obtain ⟨r,hr,rfl⟩:=he;exact ⟨r,h.2.1 f _ own r hr,rfl⟩
 | rj p f xs=>simp only[g7]at he ⊢;rw[<-h.2.2];exact he
 | di s f xs =>
  simp only[g7,Option.map_eq_some_iff]at he ⊢;obtain ⟨p,hp,rfl⟩:=he;exact ⟨p,XQ.2 λ o ho=>h.2.1 f _ o _ (XQ.1 hp o ho),rfl⟩
 | z0 s f xs =>
  simp only[g7]at he ⊢;split at he
  ·rename_i vs jb
   simp only[Option.map_eq_some_iff]at he ⊢;obtain ⟨r,hr,rfl⟩:=he;exact ⟨r,kI (h.2.1 f vs AH.emp) hr,rfl⟩
  ·cases he
 | n7 f xs =>
  simp only[g7]at he ⊢;split at he
  ·rename_i hq
   rw[if_pos hq];split at he
   ·rename_i r hr
    rw[h.1 _ _ r hr];exact he
   ·cases he
  ·cases he
 | q8 x xs =>
  simp only[g7]at he ⊢;rw[<-h.2.2];split at he
  ·split at he
   ·rename_i hg
    rw[if_pos hg];split at he
    ·split at he
     ·rename_i vs jb
      simp only[Option.map_eq_some_iff]at he ⊢;obtain ⟨r,hr,rfl⟩:=he;exact ⟨r,h.1 _ vs r hr,rfl⟩
     ·cases he
    ·simp only[Option.map_eq_some_iff]at he ⊢
     obtain ⟨r,hr,rfl⟩:=he;exact ⟨r,h.2.1 _ _ own r hr,rfl⟩
    ·split at he
     ·rename_i vs jb
      simp only[Option.map_eq_some_iff]at he ⊢;obtain ⟨r,hr,rfl⟩:=he;exact ⟨r,h.1 _ vs r hr,rfl⟩
     ·cases he
   ·cases he
  ·cases he
 | _=>exact he
theorem Ahj {C C':Cl} (h:C.le C') {o:AI} {st j8:St} (he:CN C o st=some j8):CN C' o st=some j8:=by
 unfold CN at he ⊢;split at he
 ·simp only[Option.map_eq_some_iff]at he ⊢
  obtain ⟨E,h1,h2⟩:=he;exact ⟨E,Xa h h1,h2⟩
 ·exact he
 ·exact he
theorem NU {C C':Cl} (h:C.le C') : ∀ {l:List AI} {st j8:St},C4 C l st=some j8->C4 C' l st=some j8
 | [],st,j8,he=>he
 | o::r,st,j8,he=>by
  simp only[C4]at he ⊢;cases hs:CN C o st with
  | none=>simp [hs]at he
  | some BA =>
   rw[Ahj h hs];simp only[hs]at he;exact NU h he
theorem JE {C C':Cl} (h:C.le C') : ∀ {n n':Nat} {k:List It} {st j8:St},n<=n'->run C n k st=some j8->run C' n' k st=some j8:=by
 intro n;induction n with
 | zero=>intro n' k st j8 _ hr;simp [run]at hr
 | succ n ih =>
  intro n' k st j8 hn hr;obtain ⟨q,rfl⟩ : ∃ q,n'=q+1:=⟨n'-1,by omega⟩;have hq:n<=q:=by omega
  cases k with
  | nil=>exact hr
  | cons it k =>
   cases it with
   | g8 id=>simp only[run]at hr ⊢;exact ih hq hr
   | ki ts ss=>simp only[run]at hr ⊢;exact ih hq hr
   | lp c=>simp only[run]at hr ⊢;exact ih hq hr
   | code c =>
    cases c with
    | skip=>simp only[run]at hr ⊢;exact ih hq hr
    | ops l d =>
     simp only[run]at hr ⊢;cases hs:C4 C l st with
     | none=>simp [hs]at hr
     | some BA =>
      rw[NU h hs];simp only[hs]at hr;exact ih hq hr
    | dr c ts ss=>simp only[run]at hr ⊢;exact ih hq hr
    | scope c=>simp only[run]at hr ⊢;exact ih hq hr
    | seq a b=>simp only[run]at hr ⊢;exact ih hq hr
    | cond x a b =>
     simp only[run]at hr ⊢;split at hr
     ·exact ih hq hr
     ·exact ih hq hr
     ·cases hr
    | block id c=>simp only[run]at hr ⊢;exact ih hq hr
    | loop c=>simp only[run]at hr ⊢;exact ih hq hr
    | exit id =>
     simp only[run]at hr ⊢;split at hr
     ·exact ih hq hr
     ·cases hr
    | ret=>exact hr
theorem V1 {I I':List AV->Option (AV × AH)} (hI : ∀ vs r,I vs=some r->I' vs=some r) {vs:List AV} {r:AV} (h:IG I vs=some r):IG I' vs=some r:=by
 unfold IG at h ⊢;cases he:I vs with
 | none=>simp [he]at h
 | some x=>rw[hI vs _ he];simpa [he] using h
theorem AfA {b:Bool} {I I':List AV->Option (AV × AH)} (hI : ∀ vs r,I vs=some r->I' vs=some r) {vs:List AV} {r:AV} (h:KW b I vs=some r):KW b I' vs=some r:=by
 unfold KW at h ⊢;split at h
 ·split at h
  ·rename_i r1 r2 h1 h2
   rw[V1 hI h1,V1 hI h2];exact h
  ·cases h
 ·exact V1 hI h
theorem oC : ∀ (n:Nat),(CM L n).le (CM L (n+1)):=by
 have fp : ∀ n,(∀ f vs o r,DD L n f vs o=some r->DD L (n+1) f vs o=some r) -> ∀ f vs r,GZ L n f vs=some r->GZ L (n+1) f vs=some r:=by
  intro n hI f vs r h;exact AfA (λ vs r h=>hI f vs _ r h) h
 intro n;induction n with
 | zero =>
  have : ∀ f vs o r,DD L 0 f vs o=some r->DD L 1 f vs o=some r:=λ f vs o r h=>by simp [DD]at h
  exact ⟨fp 0 this,this,rfl⟩
 | succ n ih =>
  have : ∀ f vs o r,DD L (n+1) f vs o=some r->DD L (n+2) f vs o=some r:=λ f vs o r h=>by
   rw[S5]at h ⊢;cases hL:L f with
   | none=>simp [hL]at h
   | some fn =>
    simp only[hL]at h ⊢;split at h
    ·rename_i hp
     rw[if_pos hp];cases hr:run (CM L n) n [.code fn.body] ⟨CY 0 vs,o⟩ with
     | none=>simp [hr]at h
     | some st =>
      rw[JE ih (Nat.le_succ n) hr];simpa [hr] using h
    ·cases h
  exact ⟨fp (n+1) this,this,rfl⟩
theorem E3 {n n':Nat} (h:n<=n'):(CM L n).le (CM L n'):=by
 induction h with
 | refl=>exact ⟨λ_ _ _ h=>h,λ_ _ _ _ h=>h,rfl⟩
 | step _ ih=>exact ⟨λ f vs r h=>(oC _).1 f vs r (ih.1 f vs r h),λ f vs o r h=>(oC _).2.1 f vs o r (ih.2.1 f vs o r h),rfl⟩
def Ev (L:Lib) (f:Nat) (vs:List AV) (r:AV):Prop := ∃ n,GZ L n f vs=some r
def FV (L:Lib) (f:Nat) (vs:List AV) (r:AV):Prop := ∃ n,IG (λ vs=>DD L n f vs AH.emp) vs=some r
def GY (L:Lib) (f:Nat) (vs:List AV) (o:AH) (r:AV) (o':AH):Prop := ∃ n,DD L n f vs o=some (r,o')
def jM (L:Lib) (f:Nat) (vs:List AV) (z:Nat) (es:List (List AV)):Prop := ∃ n,OO (DD L n f vs AH.emp)=some (z,es)
theorem Ev.vy {f:Nat} {vs:List AV} {r r':AV} (h:Ev L f vs r) (h':Ev L f vs r'):r=r':=by
 obtain ⟨n,hn⟩:=h;obtain ⟨n',uc⟩:=h';have h1:=(E3 (L:=L) (Nat.le_max_left n n')).1 f vs r hn;have h2:=(E3 (L:=L) (Nat.le_max_right n n')).1 f vs r' uc;rw[h1]at h2;exact Option.some.inj h2
theorem GY.vy {f:Nat} {vs:List AV} {o:AH} {r r':AV} {o1 o2:AH} (h:GY L f vs o r o1) (h':GY L f vs o r' o2):r=r'/\o1=o2:=by
 obtain ⟨n,hn⟩:=h;obtain ⟨n',uc⟩:=h';have h1:=(E3 (L:=L) (Nat.le_max_left n n')).2.1 f vs o _ hn;have h2:=(E3 (L:=L) (Nat.le_max_right n n')).2.1 f vs o _ uc;rw[h1]at h2;simpa using h2
def AK (L:Lib) (k:List It) (st:St) (Q:St->Prop):Prop := ∃ n c j8,run (CM L c) n k st=some j8/\Q j8
def AO (L:Lib) (l:List AI) (k:List It) (st:St) (Q:St->Prop):Prop := ∃ n c BA j8,C4 (CM L c) l st=some BA/\run (CM L c) n k BA=some j8/\Q j8
variable {k:List It} {st:St} {Q:St->Prop}
theorem KC {it:It} {k':List It} {BA:St} (h : ∀ (C:Cl) (n:Nat),run C (n+1) (it::k) st=run C n k' BA):AK L (it::k) st Q↔AK L k' BA Q:=by
 constructor
 ·rintro ⟨n,c,j8,hr,hq⟩
  cases n with
  | zero=>simp [run]at hr
  | succ n=>exact ⟨n,c,j8,by rw[<-h];exact hr,hq⟩
 ·rintro ⟨n,c,j8,hr,hq⟩
  exact ⟨n+1,c,j8,by rw[h];exact hr,hq⟩
theorem xC:AK L [] st Q↔Q st:=by
 constructor
 ·rintro ⟨n,c,j8,hr,hq⟩
  cases n with
  | zero=>simp [run]at hr
  | succ n=>simp only[run,Option.some.injEq]at hr;exact hr ▸ hq
 ·exact λ h=>⟨1,0,st,rfl,h⟩
theorem wU {id:Nat}:AK L (.g8 id::k) st Q↔AK L k st Q:=KC λ_ _=>rfl
theorem wY {ts ss:List Nat}:AK L (.ki ts ss::k) st Q↔AK L k ⟨bf st.tm ts,st.own.drop ss⟩ Q:=KC λ_ _=>rfl
theorem iZ {c:BK}:AK L (.lp c::k) st Q↔AK L (.code c :: .lp c::k) st Q:=KC λ_ _=>rfl
theorem xI:AK L (.code .skip::k) st Q↔AK L k st Q:=KC λ_ _=>rfl
theorem wX {c:BK} {ts ss:List Nat}:AK L (.code (.dr c ts ss)::k) st Q↔AK L (.code c :: .ki ts ss::k) st Q:=KC λ_ _=>rfl
theorem xG {c:BK}:AK L (.code (.scope c)::k) st Q↔AK L (.code c::k) st Q:=KC λ_ _=>rfl
theorem xH {a b:BK}:AK L (.code (.seq a b)::k) st Q↔AK L (.code a :: .code b::k) st Q:=KC λ_ _=>rfl
theorem wV {id:Nat} {c:BK}:AK L (.code (.block id c)::k) st Q↔AK L (.code c :: .g8 id::k) st Q:=KC λ_ _=>rfl
theorem xA {c:BK}:AK L (.code (.loop c)::k) st Q↔AK L (.code c :: .lp c::k) st Q:=KC λ_ _=>rfl
theorem wZ {id:Nat} {k':List It} (h:DJ id k=some k'):AK L (.code (.exit id)::k) st Q↔AK L k' st Q:=KC λ C n=>by simp [run,h]
theorem xF:AK L (.code .ret::k) st Q↔Q st:=by
 constructor
 ·rintro ⟨n,c,j8,hr,hq⟩
  cases n with
  | zero=>simp [run]at hr
  | succ n=>simp only[run,Option.some.injEq]at hr;exact hr ▸ hq
 ·exact λ h=>⟨1,0,st,rfl,h⟩
theorem wW {x:AP} {a b:BK} {t:Bool} (h:st.ev x = .bool t):AK L (.code (.cond x a b)::k) st Q↔if t=true then AK L (.code a::k) st Q else AK L (.code b::k) st Q:=by
 cases t
 ·simpa using KC (k' := .code b::k) (BA:=st) λ C n=>by simp [run,h]
 ·simpa using KC (k' := .code a::k) (BA:=st) λ C n=>by simp [run,h]
theorem xD {l:List AI} {d:Bool}:AK L (.code (.ops l d)::k) st Q↔AO L l k st Q:=by
 constructor
 ·rintro ⟨n,c,j8,hr,hq⟩
  cases n with
  | zero=>simp [run]at hr
  | succ n =>
   simp only[run]at hr;split at hr
   ·rename_i BA hs
    exact ⟨n,c,BA,j8,hs,hr,hq⟩
   ·cases hr
 ·rintro ⟨n,c,BA,j8,hs,hr,hq⟩
  exact ⟨n+1,c,j8,by simp [run,hs,hr],hq⟩
theorem xS:AO L [] k st Q↔AK L k st Q:=by
 constructor
 ·rintro ⟨n,c,BA,j8,hs,hr,hq⟩
  simp only[C4,Option.some.injEq]at hs;exact ⟨n,c,j8,hs ▸ hr,hq⟩
 ·rintro ⟨n,c,j8,hr,hq⟩
  exact ⟨n,c,st,j8,rfl,hr,hq⟩
theorem xV {o:AI} {l:List AI} {BA:St} (h : ∀ C,CN C o st=some BA):AO L (o::l) k st Q↔AO L l k BA Q:=by
 constructor
 ·rintro ⟨n,c,BM,j8,hs,hr,hq⟩
  simp only[C4,h]at hs;exact ⟨n,c,BM,j8,hs,hr,hq⟩
 ·rintro ⟨n,c,BM,j8,hs,hr,hq⟩
  exact ⟨n,c,BM,j8,by simpa only[C4,h] using hs,hr,hq⟩
theorem xT {d:Option Nat} {op:DP} {g:Option (Nat × Bool)} {b9:List Nat} {l:List AI} (h:EY st g=some false):AO L (⟨d,op,g,b9⟩::l) k st Q↔AO L l k (st.dst d (.g9 [])) Q :=
 xV λ C=>by simp [CN,h]
theorem SW (c:Nat):(CM L c).num=L.num:=rfl
theorem xU {d:Option Nat} {op:DP} {g:Option (Nat × Bool)} {b9:List Nat} {l:List AI} {E:BU} (h:EY st g=some true) (he : ∀ c,g7 (CM L c) b9 st.ev st.own op=some E):AO L (⟨d,op,g,b9⟩::l) k st Q↔AO L l k (st.app d E) Q:=by
 have h : ∀ c,CN (CM L c) ⟨d,op,g,b9⟩ st=some (st.app d E):=λ c=>by simp [CN,h,he]
 constructor
 ·rintro ⟨n,c,BM,j8,hs,hr,hq⟩
  simp only[C4,h]at hs;exact ⟨n,c,BM,j8,hs,hr,hq⟩
 ·rintro ⟨n,c,BM,j8,hs,hr,hq⟩
  exact ⟨n,c,BM,j8,by simpa only[C4,h] using hs,hr,hq⟩
theorem xK {d:Option Nat} {f:Nat} {xs:List AP} {g:Option (Nat × Bool)} {b9:List Nat} {l:List AI} {vs:List AV} {r:AV} (h:EY st g=some true) (hv:(xs.map st.ev).mapM (j5 (st.own.l9 b9) true)=some vs) (hr:Ev L f vs r) :
  AO L (⟨d,.call f xs,g,b9⟩::l) k st Q↔AO L l k (st.dst d r) Q:=by
 have m4 : ∀ c r',GZ L c f vs=some r'->CN (CM L c) ⟨d,.call f xs,g,b9⟩ st=some (st.dst d r'):=λ c r' hc=>by
  have x7:(CM L c).pure f vs=some r':=hc;simp [CN,h,g7,hv,x7,St.app]
 constructor
 ·rintro ⟨n,c,BM,j8,hs,gp,hq⟩
  simp only[C4]at hs;cases hI:CN (CM L c) ⟨d,.call f xs,g,b9⟩ st with
  | none=>simp [hI]at hs
  | some BA =>
   simp only[hI]at hs;cases hp:GZ L c f vs with
   | none =>
    have x7:(CM L c).pure f vs=none:=hp;simp [CN,h,g7,hv,x7]at hI
   | some r' =>
    obtain rfl:r'=r:=Ev.vy ⟨c,hp⟩ hr;rw[m4 c r' hp]at hI;obtain rfl:=Option.some.inj hI;exact ⟨n,c,BM,j8,hs,gp,hq⟩
 ·rintro ⟨n,c,BM,j8,hs,gp,hq⟩
  obtain ⟨c',x7⟩:=hr;have l1:=E3 (L:=L) (Nat.le_max_left c c');have l2:=E3 (L:=L) (Nat.le_max_right c c');refine ⟨n,max c c',BM,j8,?_,JE l1 (Nat.le_refl n) gp,hq⟩;simp only[C4];rw[m4 (max c c') r (l2.1 f vs r x7)];exact NU l1 hs
theorem xN {d:Option Nat} {f:Nat} {x:AP} {xs:List AP} {g:Option (Nat × Bool)} {b9:List Nat} {l:List AI} {vs:List AV} {r:AV} (h:EY st g=some true) (hx:st.ev x = .fn true f (L.num f) []) (hv:(xs.map st.ev).mapM (j5 st.own true)=some vs) (hr:Ev L f vs r) :
  AO L (⟨d,.q8 x xs,g,b9⟩::l) k st Q↔AO L l k (st.dst d r) Q:=by
 have m4 : ∀ c r',GZ L c f vs=some r'->CN (CM L c) ⟨d,.q8 x xs,g,b9⟩ st=some (st.dst d r'):=λ c r' hc=>by
  have x7:(CM L c).pure f vs=some r':=hc;simp [CN,h,g7,hx,SW,hv,x7,St.app]
 constructor
 ·rintro ⟨n,c,BM,j8,hs,gp,hq⟩
  simp only[C4]at hs;cases hI:CN (CM L c) ⟨d,.q8 x xs,g,b9⟩ st with
  | none=>simp [hI]at hs
  | some BA =>
   simp only[hI]at hs;cases hp:GZ L c f vs with
   | none =>
    have x7:(CM L c).pure f vs=none:=hp;simp [CN,h,g7,hx,SW,hv,x7]at hI
   | some r' =>
    obtain rfl:r'=r:=Ev.vy ⟨c,hp⟩ hr;rw[m4 c r' hp]at hI;obtain rfl:=Option.some.inj hI;exact ⟨n,c,BM,j8,hs,gp,hq⟩
 ·rintro ⟨n,c,BM,j8,hs,gp,hq⟩
  obtain ⟨c',x7⟩:=hr;have l1:=E3 (L:=L) (Nat.le_max_left c c');have l2:=E3 (L:=L) (Nat.le_max_right c c');refine ⟨n,max c c',BM,j8,?_,JE l1 (Nat.le_refl n) gp,hq⟩;simp only[C4];rw[m4 (max c c') r (l2.1 f vs r x7)];exact NU l1 hs
theorem xL {d:Option Nat} {f:Nat} {w:AV} {cs:List AV} {x:AP} {xs:List AP} {g:Option (Nat × Bool)} {b9:List Nat} {l:List AI} {vs:List AV} {r:AV} (h:EY st g=some true) (hx:st.ev x = .fn true f (L.num f) (w::cs)) (hv:(AV.agg (w::cs)::xs.map st.ev).mapM (j5 st.own true)=some vs) (hr:Ev L f vs r) :
  AO L (⟨d,.q8 x xs,g,b9⟩::l) k st Q↔AO L l k (st.dst d r) Q:=by
 have m4 : ∀ c r',GZ L c f vs=some r'->CN (CM L c) ⟨d,.q8 x xs,g,b9⟩ st=some (st.dst d r'):=λ c r' hc=>by
  have x7:(CM L c).pure f vs=some r':=hc;simp [CN,h,g7,hx,SW,hv,x7,St.app]
 constructor
 ·rintro ⟨n,c,BM,j8,hs,gp,hq⟩
  simp only[C4]at hs;cases hI:CN (CM L c) ⟨d,.q8 x xs,g,b9⟩ st with
  | none=>simp [hI]at hs
  | some BA =>
   simp only[hI]at hs;cases hp:GZ L c f vs with
   | none =>
    have x7:(CM L c).pure f vs=none:=hp;simp [CN,h,g7,hx,SW,hv,x7]at hI
   | some r' =>
    obtain rfl:r'=r:=Ev.vy ⟨c,hp⟩ hr;rw[m4 c r' hp]at hI;obtain rfl:=Option.some.inj hI;exact ⟨n,c,BM,j8,hs,gp,hq⟩
 ·rintro ⟨n,c,BM,j8,hs,gp,hq⟩
  obtain ⟨c',x7⟩:=hr;have l1:=E3 (L:=L) (Nat.le_max_left c c');have l2:=E3 (L:=L) (Nat.le_max_right c c');refine ⟨n,max c c',BM,j8,?_,JE l1 (Nat.le_refl n) gp,hq⟩;simp only[C4];rw[m4 (max c c') r (l2.1 f vs r x7)];exact NU l1 hs
theorem xO {d:Option Nat} {f:Nat} {xs:List AP} {g:Option (Nat × Bool)} {b9:List Nat} {l:List AI} {r:AV} (h:EY st g=some true) (hq:(xs.map st.ev).all dq=true) (hr:Ev L f ((xs.map st.ev).map yp) r) (lu:JH r\/QO r) :
  AO L (⟨d,.n7 f xs,g,b9⟩::l) k st Q↔AO L l k (st.dst d (LR r)) Q:=by
 have m4 : ∀ c,GZ L c f ((xs.map st.ev).map yp)=some r->CN (CM L c) ⟨d,.n7 f xs,g,b9⟩ st=some (st.dst d (LR r)):=λ c hc=>by
  have x7:(CM L c).pure f ((xs.map st.ev).map yp)=some r:=hc;simp only[CN,h,g7];rw[if_pos hq,x7];simp only[if_pos lu,Option.map_some,St.app]
 constructor
 ·rintro ⟨n,c,BM,j8,hs,gp,Ea⟩
  simp only[C4]at hs;cases hp:GZ L c f ((xs.map st.ev).map yp) with
  | none =>
   have x7:(CM L c).pure f ((xs.map st.ev).map yp)=none:=hp;simp only[CN,h,g7]at hs;rw[if_pos hq,x7]at hs;simp at hs
  | some r' =>
   obtain rfl:r'=r:=Ev.vy ⟨c,hp⟩ hr;rw[m4 c hp]at hs;exact ⟨n,c,BM,j8,hs,gp,Ea⟩
 ·rintro ⟨n,c,BM,j8,hs,gp,Ea⟩
  obtain ⟨c',x7⟩:=hr;have l1:=E3 (L:=L) (Nat.le_max_left c c');have l2:=E3 (L:=L) (Nat.le_max_right c c');refine ⟨n,max c c',BM,j8,?_,JE l1 (Nat.le_refl n) gp,Ea⟩;simp only[C4];rw[m4 (max c c') (l2.1 f _ r x7)];exact NU l1 hs
theorem xP {d:Option Nat} {s f:Nat} {xs:List AP} {g:Option (Nat × Bool)} {b9:List Nat} {l:List AI} {vs:List AV} {z:Nat} {es:List (List AV)} (h:EY st g=some true) (hv:(xs.map st.ev).mapM (bd (st.own.l9 b9) true)=some vs) (hr:jM L f vs z es)
  (ha:AO L l k (st.app d (.new s ⟨z,es⟩ (λ t => .row s t z 0 es.length))) Q):AO L (⟨d,.z0 s f xs,g,b9⟩::l) k st Q:=by
 obtain ⟨n,c,BM,j8,hs,gp,hq⟩:=ha;obtain ⟨c',x7⟩:=hr;have l1:=E3 (L:=L) (Nat.le_max_left c c');have l2:=E3 (L:=L) (Nat.le_max_right c c');have oa:OO ((CM L (max c c')).fp f vs AH.emp)=some (z,es):=kI (l2.2.1 f vs AH.emp) x7;refine ⟨n,max c c',BM,j8,?_,JE l1 (Nat.le_refl n) gp,hq⟩;simp only[C4];have:CN (CM L (max c c')) ⟨d,.z0 s f xs,g,b9⟩ st=some (st.app d (.new s ⟨z,es⟩ (λ t => .row s t z 0 es.length))):=by
  simp only[CN,h,g7,hv,oa,Option.map_some]
 rw[this];exact NU l1 hs
def jN (L:Lib) (s f:Nat) (vs:List AV) (q:CB) (r:AV) (q':CB):Prop := ∃ n,∀ o:AH,o s=q->DD L n f vs o=some (r,o.put s q')
theorem xR {d:Option Nat} {s f:Nat} {xs:List AP} {g:Option (Nat × Bool)} {b9:List Nat} {l:List AI} {r:AV} {q':CB} (h:EY st g=some true) (hr:jN L s f (xs.map st.ev) (st.own s) r q')
  (ha:AO L l k (st.app d (.uo s q' r)) Q):AO L (⟨d,.di s f xs,g,b9⟩::l) k st Q:=by
 obtain ⟨n,c,BM,j8,hs,gp,hq⟩:=ha;obtain ⟨c',x7⟩:=hr;have l1:=E3 (L:=L) (Nat.le_max_left c c');have l2:=E3 (L:=L) (Nat.le_max_right c c');have oa:XP (CM L (max c c')) f (xs.map st.ev) s (st.own s)=some (r,q'):=XQ.2 λ o ho=>l2.2.1 f _ o _ (x7 o ho)
 refine ⟨n,max c c',BM,j8,?_,JE l1 (Nat.le_refl n) gp,hq⟩;simp only[C4];have:CN (CM L (max c c')) ⟨d,.di s f xs,g,b9⟩ st=some (st.app d (.uo s q' r)):=by
  simp only[CN,h,g7,oa,Option.map_some]
 rw[this];exact NU l1 hs
theorem xJ {d:Option Nat} {f s:Nat} {xs:List AP} {g:Option (Nat × Bool)} {l:List AI} {r:AV} {o':AH} (h:EY st g=some true) (h0:o' s=⟨0,λ_=>none⟩) (hr : ∃ n,∀ o:AH,(∀ q,q≠s->o q=st.own q)->DD L n f (xs.map st.ev) o=some (r,o'.put s (o s)))
  (ha:AO L l k { (st.dst d r) with own:=o'.put s (st.own s) } Q):AO L (⟨d,.c9 f xs,g,[s]⟩::l) k st Q:=by
 obtain ⟨n,c,BM,j8,hs,gp,hq⟩:=ha;obtain ⟨c',x7⟩:=hr;have l1:=E3 (L:=L) (Nat.le_max_left c c');have l2:=E3 (L:=L) (Nat.le_max_right c c');have oa:N1 (CM L (max c c')) f (xs.map st.ev) s st.own=some (r,o'):=XM h0 λ o ho=>l2.2.1 f _ o _ (x7 o ho)
 refine ⟨n,max c c',BM,j8,?_,JE l1 (Nat.le_refl n) gp,hq⟩;simp only[C4];have:CN (CM L (max c c')) ⟨d,.c9 f xs,g,[s]⟩ st=some { (st.dst d r) with own:=o'.put s (st.own s) }:=by
  simp only[CN,h,g7,oa,Option.map_some,St.app]
 rw[this];exact NU l1 hs
theorem xM {d:Option Nat} {f:Nat} {xs:List AP} {g:Option (Nat × Bool)} {b9:List Nat} {l:List AI} {r:AV} {o':AH} (hb : ∀ s,b9≠[s]) (h:EY st g=some true) (hr:GY L f (xs.map st.ev) st.own r o') :
  AO L (⟨d,.c9 f xs,g,b9⟩::l) k st Q↔AO L l k { (st.dst d r) with own:=o' } Q:=by
 have m4 : ∀ c r' o1,DD L c f (xs.map st.ev) st.own=some (r',o1)->CN (CM L c) ⟨d,.c9 f xs,g,b9⟩ st=some { (st.dst d r') with own:=o1 }:=λ c r' o1 hc=>by
  have x7:(CM L c).fp f (xs.map st.ev) st.own=some (r',o1):=hc;have he:g7 (CM L c) b9 st.ev st.own (.c9 f xs)=some (.dp r' o1):=by
   match b9,hb with
   | [],_=>simp only[g7];rw[x7];rfl
   | [s],hb=>exact absurd rfl (hb s)
   | s::s'::q,_=>simp only[g7];rw[x7];rfl
  simp [CN,h,he,St.app]
 constructor
 ·rintro ⟨n,c,BM,j8,hs,gp,hq⟩
  simp only[C4]at hs;cases hI:CN (CM L c) ⟨d,.c9 f xs,g,b9⟩ st with
  | none=>simp [hI]at hs
  | some BA =>
   simp only[hI]at hs;cases hp:DD L c f (xs.map st.ev) st.own with
   | none =>
    have x7:(CM L c).fp f (xs.map st.ev) st.own=none:=hp;have he:g7 (CM L c) b9 st.ev st.own (.c9 f xs)=none:=by
     match b9,hb with
     | [],_=>simp only[g7];rw[x7];rfl
     | [s],hb=>exact absurd rfl (hb s)
     | s::s'::q,_=>simp only[g7];rw[x7];rfl
    simp [CN,h,he]at hI
   | some x =>
    obtain ⟨r',o1⟩:=x;obtain ⟨rfl,rfl⟩:=GY.vy ⟨c,hp⟩ hr;rw[m4 c r' o1 hp]at hI;obtain rfl:=Option.some.inj hI;exact ⟨n,c,BM,j8,hs,gp,hq⟩
 ·rintro ⟨n,c,BM,j8,hs,gp,hq⟩
  obtain ⟨c',x7⟩:=hr;have l1:=E3 (L:=L) (Nat.le_max_left c c');have l2:=E3 (L:=L) (Nat.le_max_right c c');refine ⟨n,max c c',BM,j8,?_,JE l1 (Nat.le_refl n) gp,hq⟩;simp only[C4];rw[m4 (max c c') r o' (l2.2.1 f _ _ _ x7)];exact NU l1 hs
theorem xQ {d:Option Nat} {f:Nat} {cs:List AV} {x:AP} {xs:List AP} {g:Option (Nat × Bool)} {b9:List Nat} {l:List AI} {r:AV} {o':AH} (h:EY st g=some true) (hx:st.ev x = .fn false f (L.num f) cs) (hr:GY L f (xs.map st.ev++cs) st.own r o') :
  AO L (⟨d,.q8 x xs,g,b9⟩::l) k st Q↔AO L l k { (st.dst d r) with own:=o' } Q:=by
 have m4 : ∀ c r' o1,DD L c f (xs.map st.ev++cs) st.own=some (r',o1)->CN (CM L c) ⟨d,.q8 x xs,g,b9⟩ st=some { (st.dst d r') with own:=o1 }:=λ c r' o1 hc=>by
  have x7:(CM L c).fp f (xs.map st.ev++cs) st.own=some (r',o1):=hc;simp [CN,h,g7,hx,SW,x7,St.app]
 constructor
 ·rintro ⟨n,c,BM,j8,hs,gp,hq⟩
  simp only[C4]at hs;cases hI:CN (CM L c) ⟨d,.q8 x xs,g,b9⟩ st with
  | none=>simp [hI]at hs
  | some BA =>
   simp only[hI]at hs;cases hp:DD L c f (xs.map st.ev++cs) st.own with
   | none =>
    have x7:(CM L c).fp f (xs.map st.ev++cs) st.own=none:=hp;simp [CN,h,g7,hx,SW,x7]at hI
   | some x =>
    obtain ⟨r',o1⟩:=x;obtain ⟨rfl,rfl⟩:=GY.vy ⟨c,hp⟩ hr;rw[m4 c r' o1 hp]at hI;obtain rfl:=Option.some.inj hI;exact ⟨n,c,BM,j8,hs,gp,hq⟩
 ·rintro ⟨n,c,BM,j8,hs,gp,hq⟩
  obtain ⟨c',x7⟩:=hr;have l1:=E3 (L:=L) (Nat.le_max_left c c');have l2:=E3 (L:=L) (Nat.le_max_right c c');refine ⟨n,max c c',BM,j8,?_,JE l1 (Nat.le_refl n) gp,hq⟩;simp only[C4];rw[m4 (max c c') r o' (l2.2.1 f _ _ _ x7)];exact NU l1 hs
theorem xB {Q':St->Prop} (h:AK L k st Q) (hq : ∀ s,Q s->Q' s):AK L k st Q':=by
 obtain ⟨n,c,j8,hr,hh⟩:=h;exact ⟨n,c,j8,hr,hq _ hh⟩
theorem GY.intro {f:Nat} {fn:AFn} {vs:List AV} {o:AH} {r:AV} {o':AH} (hL:L f=some fn) (hp:vs.length=fn.de) (h:AK L [.code fn.body] ⟨CY 0 vs,o⟩ (λ st=>(fn.res.mapM (EU st)).map IP=some r/\st.own=o')):GY L f vs o r o':=by
 obtain ⟨n,c,j8,hr,h1,h2⟩:=h;refine ⟨max n c+1,?_⟩;rw[S5];simp only[hL,hp,if_true];rw[JE (E3 (L:=L) (Nat.le_max_right n c)) (Nat.le_max_left n c) hr];cases hm:fn.res.mapM (EU j8) with
 | none=>rw[hm]at h1;cases h1
 | some rs =>
  rw[hm]at h1;simp only[Option.map_some,Option.some.injEq]at h1;simp [hm,h1,h2]
theorem FV.intro {f:Nat} {fn:AFn} {vs:List AV} {r:AV} (hL:L f=some fn) (hp:vs.length=fn.de) (h:AK L [.code fn.body] ⟨CY 0 vs,AH.emp⟩ (λ st=>((fn.res.mapM (EU st)).map IP).bind (QD st.own false)=some r/\A7 r)):FV L f vs r:=by
 obtain ⟨n,c,j8,hr,h1,h2⟩:=h;cases hm:(fn.res.mapM (EU j8)).map IP with
 | none=>rw[hm]at h1;cases h1
 | some r0 =>
  rw[hm]at h1;simp only[Option.bind_some]at h1;obtain ⟨q,hq⟩:=GY.intro (o:=AH.emp) (r:=r0) (o':=j8.own) hL hp ⟨n,c,j8,hr,hm,rfl⟩;refine ⟨q,?_⟩;unfold IG;simp [hq,h1,h2]
theorem FV.ev {f:Nat} {fn:AFn} {vs:List AV} {r:AV} (hL:L f=some fn) (h:FV L f vs r) (hs:fn.ry=false:=by rfl):Ev L f vs r:=by
 obtain ⟨n,h⟩:=h;have hs:L.ry f=false:=by simp only[Lib.ry,hL,hs]
 exact ⟨n,by unfold GZ KW;rw[hs];exact h⟩
theorem FV.cons {f:Nat} {q:Bool} {e:List AV} {es:List (List AV)} {vs:List AV} {r:AV} (h:FV L f (.sl q (e::es)::vs) r):Ev L f (.sl q (e::es)::vs) r:=by
 obtain ⟨n,h⟩:=h;refine ⟨n,?_⟩;unfold GZ KW;split
 ·rename_i heq;simp at heq
 ·exact h
theorem FV.nil {f:Nat} {fn:AFn} {q:Bool} {vs:List AV} {r:AV} (hL:L f=some fn) (h1:FV L f (.dm (.bool true)::vs) r) (h2:FV L f (.dm (.bool false)::vs) r) (hs:fn.ry=true:=by rfl):Ev L f (.sl q []::vs) r:=by
 obtain ⟨n,h1⟩:=h1;obtain ⟨n',h2⟩:=h2;have hs:L.ry f=true:=by simp only[Lib.ry,hL,hs]
 have k1:=V1 (λ vs r h=>(E3 (L:=L) (Nat.le_max_left n n')).2.1 f vs AH.emp r h) h1;have k2:=V1 (λ vs r h=>(E3 (L:=L) (Nat.le_max_right n n')).2.1 f vs AH.emp r h) h2;refine ⟨max n n',?_⟩;unfold GZ KW;rw[hs];simp only;have k1':IG (λ vs=>DD L (max n n') f vs AH.emp) (.dm (.bool true)::vs)=some r:=k1;have k2':IG (λ vs=>DD L (max n n') f vs AH.emp) (.dm (.bool false)::vs)=some r:=k2;rw[k1',k2'];simp
theorem Ev.intro {f:Nat} {fn:AFn} {vs:List AV} {r:AV} (hL:L f=some fn) (hp:vs.length=fn.de) (h:AK L [.code fn.body] ⟨CY 0 vs,AH.emp⟩ (λ st=>((fn.res.mapM (EU st)).map IP).bind (QD st.own false)=some r/\A7 r)) (hs:fn.ry=false:=by rfl):Ev L f vs r :=
 (FV.intro hL hp h).ev hL hs
end
end Go.g6

namespace Go.g6
section
variable {L:Lib} {k:List It} {tm:Tm} {own:AH} {Q:St->Prop} {l:List AI} {b9:List Nat} {d:Nat}
theorem WM (i:Nat) (v:AV) (r:Tm) (j:Nat):j4 ((i,v)::r) j=if j=i then v else j4 r j:=rfl
theorem Ahu (j:Nat):j4 [] j = .any:=rfl
theorem Ahr (i:Nat) (v:AV) (r:Tm) (l:List Nat):bf ((i,v)::r) l=if l.contains i then bf r l else (i,v)::bf r l:=rfl
theorem Ahs (l:List Nat):bf [] l=[]:=rfl
theorem Aea (i:Nat) (v:AV) (r:List AV):CY i (v::r)=(i,v)::CY (i+1) r:=rfl
end
end Go.g6

namespace Go.g6
section
variable {L:Lib} {k:List It} {tm:Tm} {own:AH} {st:St} {Q:St->Prop} {l:List AI} {b9:List Nat} {d:Nat} {dst:Option Nat}
section
variable {x y:AP} {kd:IntKind} {a b:Int}
end
def UG (fn:AFn) (r:AV) (st:St):Prop:=((fn.res.mapM (EU st)).map IP).bind (QD st.own false)=some r/\A7 r
theorem Ev.fwd {f:Nat} {fn:AFn} {vs:List AV} {r:AV} (hL:L f=some fn) (hp:vs.length=fn.de) (h:AK L [.code fn.body] ⟨CY 0 vs,AH.emp⟩ (UG fn r)) (hs:fn.ry=false:=by rfl):Ev L f vs r:=Ev.intro hL hp h hs
theorem FV.fwd {f:Nat} {fn:AFn} {vs:List AV} {r:AV} (hL:L f=some fn) (hp:vs.length=fn.de) (h:AK L [.code fn.body] ⟨CY 0 vs,AH.emp⟩ (UG fn r)):FV L f vs r:=FV.intro hL hp h
end
attribute [irreducible] UG
end Go.g6

namespace Go.g6
def pw (n:Int):Int:=2^n.toNat
theorem AfC (n:Int):1<=pw n:=by
 have:0<pw n:=Int.pow_pos (by decide)
 omega
theorem Ag0 {k2:IntKind} {a n:Int} (h:0<=n/\n<=63):DN .shr .i64 a k2 n=some (.int .i64 (a/pw n)):=by
 have h2:=AfC n;have e:(2:Int)^(min n.toNat IntKind.i64.bits)=pw n:=by
  have:min n.toNat IntKind.i64.bits=n.toNat:=by simp only[IntKind.bits];omega
  rw[this];rfl
 simp only[DN];rw[if_neg (by omega),e,Int.fdiv_eq_ediv_of_nonneg _ (by omega)]
theorem vW {a m:Int} (hm:0<m):a.tmod m=if 0<=a\/a%m=0 then a%m else a%m-m:=by
 have h:=Int.tmod_eq_emod (a:=a) (b:=m);rw[h];have hd:m ∣ a↔a%m=0:=Int.dvd_iff_emod_eq_zero;by_cases h0:0<=a\/a%m=0
 ·rw[if_pos h0,if_pos (by rcases h0 with h0|h0;exact Or.inl h0;exact Or.inr (hd.2 h0))];omega
 ·rw[if_neg h0,if_neg (λ h=>h0 (h.imp id hd.1))]
  have:(m.natAbs:Int)=m:=by omega
  omega
theorem vT {a m:Int} (hm:0<m):a.tdiv m=if 0<=a\/a%m=0 then a/m else a/m+1:=by
 have h:=Int.tdiv_eq_ediv (a:=a) (b:=m);rw[h];have hd:m ∣ a↔a%m=0:=Int.dvd_iff_emod_eq_zero;by_cases h0:0<=a\/a%m=0
 ·rw[if_pos h0,if_pos (by rcases h0 with h0|h0;exact Or.inl h0;exact Or.inr (hd.2 h0))];omega
 ·rw[if_neg h0,if_neg (λ h=>h0 (h.imp id hd.1)),Int.sign_eq_one_of_pos hm]
theorem Yu {a m:Int} (hm:1<=m) (h : -9223372036854775808<=a/\a<=9223372036854775807) : -9223372036854775808<=a/m/\a/m<=9223372036854775807:=by
 constructor
 ·rw[Int.le_ediv_iff_mul_le (by omega)]
  have:=Int.mul_le_mul_of_nonpos_left (a := -9223372036854775808) (b:=m) (c:=1) (by omega) hm
  omega
 ·have:a/m<9223372036854775808:=by
   rw[Int.ediv_lt_iff_lt_mul (by omega)];have:=Int.mul_le_mul_of_nonneg_left (c:=9223372036854775808) (a:=1) (b:=m) hm (by omega)
   omega
  omega
section
variable {L:Lib} {k:List It} {tm:Tm} {own:AH} {Q:St->Prop} {l:List AI} {b9:List Nat} {d:Nat} {x y:AP} {a b n p:Int} {k2:IntKind}
end
end Go.g6

namespace Go.g6
theorem TZ (ts:List Nat) (j:Nat) : ∀ tm:Tm,j4 (bf tm ts) j=if ts.contains j then .any else j4 tm j
 | []=>by simp [Ahs,Ahu]
 | (i,u)::r=>by
  rw[Ahr];by_cases h:ts.contains i=true
  ·rw[if_pos h,TZ ts j r,WM]
   by_cases h2:j=i
   ·subst h2;rw[if_pos h,if_pos h]
   ·rw[if_neg h2]
  ·rw[if_neg h,WM,WM,TZ ts j r]
   by_cases h2:j=i
   ·subst h2;rw[if_pos rfl,if_pos rfl,if_neg h]
   ·rw[if_neg h2,if_neg h2]
theorem St.jj (a:St) (d:Option Nat) (v:AV):(a.dst d v).own=a.own:=by cases d<;>rfl
def JT (j:Nat):List Nat->Bool
 | []=>false
 | i::r=>bif Nat.beq j i then true else JT j r
abbrev OU (n:Int):List AV:=[.int .i64 n]
section
variable {L:Lib} {k:List It} {tm:Tm} {own:AH} {Q:St->Prop} {l:List AI} {b9:List Nat} {d:Nat} {x i:AP} {kd:IntKind} {a:Int} {q:Bool} {α:Type} {es:List α} {enc:α->List AV} {z:Nat}
end
end Go.g6

namespace Go.g6
inductive BC where
 | bx (cs:List AV)
 | rw (z:Nat) (es:List (List AV))
 | bs (z:Nat) (es:List (List AV))
 | mx (rows:List (Option (Nat × List (List AV))))
 | hx (i:Nat) (v:AV) (rows:List (Option (Nat × List (List AV))))
 | vw (w:List Nat) (rows:List (Option (Nat × List (List AV))))
abbrev Mem:=List (Nat × Nat × BC)
def c8:Mem->Nat->Option (Nat × BC)
 | [],_=>none
 | (k,s,c)::r,j=>bif Nat.beq j k then some (s,c) else c8 r j
def c5 (M:Mem) (k t:Nat):Option BC:=match c8 M k with
 | none=>none
 | some (_,c)=>match t with
  | 0=>some c
  | i+1=>match c with
   | .mx rows=>match rows[i]? with
    | some (some (z,es))=>some (.rw z es)
    | _=>none
   | .hx _ _ rows=>match rows[i]? with
    | some (some (z,es))=>some (.rw z es)
    | _=>none
   | .vw _ rows=>match rows[i]? with
    | some (some (z,es))=>some (.rw z es)
    | _=>none
   | _=>none
def w3 (j:Nat):Mem->Mem
 | []=>[]
 | (k,s,c)::r=>bif Nat.beq j k then w3 j r else (k,s,c)::w3 j r
def tg:Tm->Nat->AV
 | [],_ => .any
 | (i,v)::r,j=>bif Nat.beq j i then v else tg r j
def bit (m i:Nat):Bool:=Nat.beq (Nat.land (Nat.shiftRight m i) 1) 1
def mask:Nat->List Nat->Nat
 | m,[]=>m
 | m,t::ts=>mask (Nat.lor m (Nat.shiftLeft 1 t)) ts
def ye (m:Nat):Tm->Tm
 | []=>[]
 | (i,v)::r=>bif bit m i then ye m r else (i,v)::ye (Nat.lor m (Nat.shiftLeft 1 i)) r
def fN (n:Nat) (K:Nat->Prop):Prop:=match n with
 | 0=>K 0
 | k+1=>K (k+1)
def vu:AV->Bool
 | .int _ _=>true | .bool _=>true | .dm _=>true | .sl _ _=>true | .nil=>true
 | _=>false
def D9:List AV->Bool
 | []=>true
 | v::r=>bif vu v then D9 r else false
def U3:List (List AV)->Bool
 | []=>true
 | v::r=>bif D9 v then U3 r else false
def NM (s:Nat):AV->Bool
 | .row k _ _ _ _=>Nat.beq k s | .ptr k _ _ _=>Nat.beq k s
 | _=>false
def IQ (s:Nat):List AV->Bool
 | []=>false
 | v::r=>bif NM s v then true else IQ s r
def QA (s:Nat):List (List AV)->Bool
 | []=>false
 | v::r=>bif IQ s v then true else QA s r
def O7 (s:Nat):AV->Bool
 | .agg cs=>IQ s cs
 | .fn _ _ _ cs=>IQ s cs
 | v=>NM s v
def TS (s:Nat):List AV->Bool
 | []=>false
 | v::r=>bif O7 s v then true else TS s r
def NN (s:Nat):AV->Bool
 | .g9 vs=>TS s vs
 | v=>O7 s v
def HT (s:Nat):Tm->Bool
 | []=>false
 | (_,v)::r=>bif NN s v then true else HT s r
def HS (s:Nat):BC->Bool
 | .bx cs=>IQ s cs
 | .rw _ _=>false
 | .bs _ es=>QA s es
 | .mx _=>false
 | .hx _ _ _=>false
 | .vw _ _=>false
def GU (s:Nat):Mem->Bool
 | []=>false
 | (k,_,c)::r=>bif Nat.beq s k then true else bif HS s c then true else GU s r
def OS (s:Nat):AV->Bool
 | .row k t _ _ _=>bif Nat.beq k s then (match t with|0=>false|_+1=>true) else false
 | .ptr k t _ _=>bif Nat.beq k s then (match t with|0=>false|_+1=>true) else false
 | _=>false
def N4 (s:Nat):List AV->Bool
 | []=>false
 | v::r=>bif OS s v then true else N4 s r
def Q1 (s:Nat):AV->Bool
 | .agg cs=>N4 s cs
 | .fn _ _ _ cs=>N4 s cs
 | v=>OS s v
def SU (s:Nat):List AV->Bool
 | []=>false
 | v::r=>bif Q1 s v then true else SU s r
def PL (s:Nat):AV->Bool
 | .g9 vs=>SU s vs
 | v=>Q1 s v
def JJ (s:Nat):Tm->Bool
 | []=>false
 | (_,v)::r=>bif PL s v then true else JJ s r
def SV (s:Nat):List (List AV)->Bool
 | []=>false
 | v::r=>bif N4 s v then true else SV s r
def N3 (s:Nat):BC->Bool
 | .bx cs=>N4 s cs
 | .bs _ es=>SV s es
 | _=>false
def H1 (s:Nat):Mem->Bool
 | []=>false
 | (_,_,c)::r=>bif N3 s c then true else H1 s r
def used (k:Nat) (tm:Tm) (M:Mem):Bool:=bif GU k M then true else HT k tm
def ZK (tm:Tm) (M:Mem):List Nat->(Nat->Prop)->Prop
 | [],_=>False
 | k::r,K=>bif used k tm M then ZK tm M r K else K k
def GN (s:Nat) (tm:Tm) (M:Mem) (K:Nat->Prop):Prop:=ZK tm M [s,s+1000000,s+2000000,s+3000000] K
def fL:List AV->(List AV->Prop)->Prop
 | [],K=>K []
 | v::r,K=>fL r λ r'=>K (v::r')
def fV (v:AV) (K:AV->Prop):Prop:=match v with
 | .int k n=>K (.int k n) | .bool b=>K (.bool b) | .sl l es=>K (.sl l es) | .row s t z o n=>K (.row s t z o n)
 | .nil=>K .nil | .ptr s t i j=>K (.ptr s t i j) | .w6 cs=>K (.w6 cs) | .agg cs=>fL cs λ cs=>K (.agg cs)
 | .fn p f g cs=>fL cs λ cs=>K (.fn p f g cs)
 | .g9 vs=>fL vs λ vs=>K (.g9 vs) | .dm c=>K (.dm c) | .any=>False
def fC (v:AV) (K:List AV->Prop):Prop:=match v with
 | .agg cs=>fL cs K
 | .fn _ _ _ _=>False
 | .g9 _=>False
 | .any=>False
 | v=>fV v λ v=>K [v]
def fB (b:Bool) (K:Bool->Prop):Prop:=match b with
 | true=>K true
 | false=>K false
def fT:Tm->(Tm->Prop)->Prop
 | [],K=>K []
 | (i,v)::r,K=>fT r λ r'=>K ((i,v)::r')
def fM:Mem->(Mem->Prop)->Prop
 | [],K=>K []
 | (k,s,c)::r,K=>fM r λ r'=>K ((k,s,c)::r')
def fF (v:AV) (K:AV->Prop):Prop:=match v with
 | .int k n=>K (.int k n) | .bool b=>K (.bool b) | .sl l es=>K (.sl l es) | .row s t z o n=>K (.row s t z o n)
 | .nil=>K .nil | .ptr s t i j=>K (.ptr s t i j) | .dm c=>K (.dm c)|_=>False
def f2 (v:AV) (K:AV->Prop):Prop:=match v with
 | .int k n=>K (.int k n) | .bool b=>K (.bool b) | .sl l es=>K (.sl l es) | .row s t z o n=>K (.row s t z o n)
 | .nil=>K .nil | .ptr s t i j=>K (.ptr s t i j) | .dm c=>K (.dm c) | .agg cs=>fL cs λ cs=>K (.agg cs) | .fn p f g cs=>fL cs λ cs=>K (.fn p f g cs)|_=>False
def rm (agg:Bool) (ds:List AV) (K:AV->Prop):Prop:=match agg with
 | true=>K (.agg ds)
 | false=>match ds with
  | [c]=>fF c K
  | _=>False
def AF (p q A B:Prop):Prop:=(p->A)/\(q->B)
def AM (p A:Prop):Prop:=p/\A
def AD (op:BinOp) (k:IntKind) (a:Int) (k':IntKind) (b:Int) (K:AV->Prop):Prop := ∃ v,DN op k a k' b=some v/\K v
def CZ (op:UnOp) (k:IntKind) (n:Int) (K:AV->Prop):Prop := ∃ v,QF op (.int k n)=some v/\K v
structure A4 (k:IntKind) (n:Int) (K:Int->Prop):Prop where h:K (k.wrap n)
def AX (es:List (List AV)) (a:Int) (z:Nat) (K:List AV->Prop):Prop:=0<=a /\ ∃ cs,es[a.toNat]? = some cs/\cs.length=z/\K cs
def A9 (es:List (List AV)) (i j n:Nat) (K:List AV->Prop):Prop := ∃ cs ds,es[i]? = some cs/\part cs j n=some ds/\K ds
def BG (es:List (List AV)) (i j:Nat) (vs:List AV) (K:List (List AV)->Prop):Prop := ∃ cs,es[i]? = some cs/\j+vs.length<=cs.length/\K (es.set i (splice cs j vs))
def B8 (a b:Int) (bytes:Nat) (zero:List AV) (K:List (List AV)->Nat->Prop):Prop:=(0<=a/\a<=b/\b*bytes<=D5/\b<=9223372036854775807)/\K (List.replicate a.toNat zero) a.toNat
structure AR (es:List (List AV)) (K:Nat->Prop):Prop where h:K es.length
def B6 (es:List (List AV)) (len:Nat) (ys:List (List AV)) (z bytes:Nat) (K:List (List AV)->Nat->Prop):Prop :=
 len<=es.length/\(∀ e∈ys,e.length=z)/\(len+ys.length)*bytes<=D5/\len+ys.length<=9223372036854775807/\K (es.take len++ys) (len+ys.length)
def CT (ys:List (List AV)) (z bytes:Nat) (K:List (List AV)->Nat->Prop):Prop :=
 (∀ e∈ys,e.length=z)/\ys.length*bytes<=D5/\ys.length<=9223372036854775807/\K ys ys.length
def D8 (es:List (List AV)) (off len:Nat) (ys:List (List AV)) (z:Nat) (K:List (List AV)->Nat->Prop):Prop :=
 off+len<=es.length/\(∀ e∈ys,e.length=z)/\K (es.take off++ys.take len++es.drop (off+min ys.length len)) (min ys.length len)
def B9 (es:List (List AV)) (off len:Nat) (K:List (List AV)->Prop):Prop:=off+len<=es.length/\K ((es.drop off).take len)
def FY:List AV->Bool
 | []=>true
 | v::r=>match v with
  | .int _ _=>FY r | .bool _=>FY r | .dm _=>FY r | .sl _ _=>FY r
  | _=>false
def nl:AV->AV
 | .nil => .sl false []
 | v=>v
def MB:List AV->Bool
 | []=>true
 | v::r=>match v with
  | .int _ _=>MB r | .bool _=>MB r | .dm _=>MB r | .sl _ _=>MB r | .nil=>MB r
  | _=>false
def BF (es:List (List AV)) (off len:Nat) (K:List (List AV)->Prop):Prop:=off+len<=es.length/\(∀ e∈es,MB e=true)/\K (((es.drop off).take len).map λ e=>e.map nl)
def BN (rows:List (Option (Nat × List (List AV)))) (i:Nat) (K:Option (Nat × List (List AV))->Prop):Prop := ∃ r,rows[i]? = some r/\K r
def BH (rows:List (Option (Nat × List (List AV)))) (i:Nat) (K:Nat->List (List AV)->Prop):Prop := ∃ z es,rows[i]? = some (some (z,es))/\K z es
def CQ (rows:List (Option (Nat × List (List AV)))) (i z:Nat) (es:List (List AV)) (K:List (Option (Nat × List (List AV)))->Prop):Prop:=i<rows.length/\K (rows.set i (some (z,es)))
def CK (rows:List (Option (Nat × List (List AV)))) (i z:Nat) (es es':List (List AV)) (K:List (Option (Nat × List (List AV)))->Prop):Prop:=es'.length=es.length/\K (rows.set i (some (z,es')))
def C6 (a b:Int) (bytes:Nat) (K:List (Option (Nat × List (List AV)))->Nat->Prop):Prop:=(0<=a/\a<=b/\b*bytes<=D5/\b<=9223372036854775807)/\K (List.replicate a.toNat none) a.toNat
def C7 (rows:List (Option (Nat × List (List AV)))) (len:Nat) (r:Option (Nat × List (List AV))) (bytes:Nat) (K:List (Option (Nat × List (List AV)))->Nat->Prop):Prop :=
 len=rows.length/\(len+1)*bytes<=D5/\len+1<=9223372036854775807/\K (rows++[r]) (len+1)
def QC (q:Bool):List (Option (Nat × List (List AV)))->List (List AV)
 | []=>[]
 | none::r=>[.sl false []]::QC q r
 | some (_,es)::r=>[.sl q es]::QC q r
def CW (q:Bool) (rows:List (Option (Nat × List (List AV)))) (off len:Nat) (K:List (List AV)->Prop):Prop :=
 off=0/\len=rows.length/\(∀ z es,some (z,es)∈rows -> ∀ e∈es,FY e=true)/\K (QC q rows)
def B1 (lo hi:Option Int) (len:Nat) (K:Nat->Nat->Prop):Prop :=
 ∃ a h:Nat,(match lo with|none=>a=0|some x=>0<=x/\a=x.toNat)/\(match hi with|none=>h=len|some x=>0<=x/\x<=len/\h=x.toNat)/\a<=h/\K a h
def CR (z:Nat) (es:List (List AV)) (lo hi:Option Int) (K:List (List AV)->Prop):Prop:=(∀ e∈es,e.length=z)/\B1 lo hi es.length λ a h=>K ((es.take h).drop a)
def AB (L:Lib) (f:Nat) (vs:List AV) (K:AV->Prop):Prop := ∃ r,Ev L f vs r/\K r
def xW (n:Nat) (cs ds:List AV) (K:Bool->Prop):Prop := ∃ a b,dY cs=some a/\dY ds=some b/\a.length=n/\b.length=n/\K (decide (a=b))
def YR:List AV->Bool
 | []=>true
 | .int _ _::r=>YR r
 | _=>false
def D4 (L:Lib) (f:Nat) (vs:List AV) (K:Nat->List (List AV)->Nat->Prop):Prop := ∃ z es n,jM L f vs z es/\n=es.length/\K z es n
abbrev E7:=Nat->Nat->Nat × Nat
def BA (σ:E7):AV->AV
 | .row k t z o n => .row (σ k t).1 (σ k t).2 z o n
 | .ptr k t i j => .ptr (σ k t).1 (σ k t).2 i j
 | v=>v
def BM (σ:E7):AV->AV
 | .agg cs => .agg (cs.map (BA σ))
 | .fn p f g cs => .fn p f g (cs.map (BA σ))
 | v=>BA σ v
def BJ (σ:E7):AV->AV
 | .g9 vs => .g9 (vs.map (BM σ))
 | v=>BM σ v
def B5 (σ:E7) (k:Nat):Nat->List (Option (Nat × List (List AV)))->List (List AV)
 | _,[]=>[]
 | i,none::r=>[.nil]::B5 σ k (i+1) r
 | i,some (z,es)::r=>[.row (σ k (i+1)).1 (σ k (i+1)).2 z 0 es.length]::B5 σ k (i+1) r
def BC.g8 (σ:E7) (k:Nat):BC->D7
 | .bx cs=>⟨cs.length,[cs.map (BA σ)]⟩
 | .rw z es=>⟨z,es⟩
 | .bs z es=>⟨z,es.map λ cs=>cs.map (BA σ)⟩
 | .mx rows=>⟨1,B5 σ k 0 rows⟩
 | .hx i v rows=>⟨1,(B5 σ k 0 rows).set i [v]⟩
 | .vw w rows=>⟨1,w.map λ t=>((B5 σ k 0 rows)[t]?).getD []⟩
def BC.mf:BC->Bool
 | .bx _=>false
 | _=>true
def EZ (s:Nat):Bool:=Nat.blt s 900000
structure GO (σ:E7) (own:AH) (M:Mem):Prop where
 site : ∀ k s c,c8 M k=some (s,c)->(σ k 0).1=s
 g8 : ∀ k t c,c5 M k t=some c->(own (σ k t).1).g8 (σ k t).2=some (c.g8 σ k)
 old : ∀ k t c,c5 M k t=some c->(σ k t).2<(own (σ k t).1).j6
 inj : ∀ k t k' t' c c',c5 M k t=some c->c5 M k' t'=some c'->σ k t=σ k' t'->k=k'/\t=t'
 low : ∀ k t c,c5 M k t=some c->c.mf=true->EZ (σ k t).1=true
structure RX (σ:E7) (tm:Tm) (M:Mem) (st:St):Prop where
 tm : ∀ j,tg tm j = .any\/j4 st.tm j=BJ σ (tg tm j)
 sat:GO σ st.own M
def SQ (Q:Tm->Mem->Prop) (st:St):Prop := ∃ σ tm M,RX σ tm M st/\Q tm M
def AA (L:Lib) (k:List It) (tm:Tm) (M:Mem) (Q:Tm->Mem->Prop):Prop := ∀ σ st,RX σ tm M st->AK L k st (SQ Q)
def jA (L:Lib) (l:List AI) (k:List It) (tm:Tm) (M:Mem) (Q:Tm->Mem->Prop):Prop := ∀ σ st,RX σ tm M st->AO L l k st (SQ Q)
def A6 (L:Lib) (f:Nat) (vs:List AV) (tm:Tm) (M:Mem) (K:AV->Mem->Prop):Prop :=
 ∀ σ own,GO σ own M -> ∃ r n0 σ' M',GY L f (vs.map (BJ σ)) own (BJ σ' r) n0/\GO σ' n0 M'/\(∀ j,BJ σ' (tg tm j)=BJ σ (tg tm j))/\K r M'
def TL (s:Nat):Mem->Bool
 | []=>true
 | (_,s',_)::r=>bif Nat.beq s' s then false else TL s r
def UB (L:Lib) (s f:Nat):Prop :=
 ∀ n vs (o0 o2:AH) r o',(∀ t,o0.get s t=none)->(∀ q,q≠s->o2 q=o0 q)->DD L n f vs o0=some (r,o')->DD L n f vs o2=some (r,o'.put s (o2 s))
def yB (L:Lib) (s f:Nat) (vs:List AV) (tm:Tm) (M:Mem) (K:AV->Mem->Prop):Prop :=
 UB L s f/\(EZ s=false/\TL s M=true)/\A6 L f vs tm M λ r M'=>TL s M'=true/\K r M'
def yC (L:Lib) (s f key:Nat) (rest:List AV) (M:Mem) (K:AV->Mem->Prop):Prop :=
 ∃ (cells ig:List AV) (kd:IntKind) (n:Int),c8 M key=some (s,.bx cells)/\D9 cells=true/\D9 ig=true/\(∀ (t:Nat) (q:CB),q.g8 t=some ⟨cells.length,[cells]⟩->jN L s f (.ptr s t 0 0::rest) q (.int kd n) (q.v7 t (some ⟨ig.length,[ig]⟩)))/\K (.int kd n) ((key,s,.bx ig)::M)
def cv:AV->AV
 | .agg cs=>bif D9 cs then .agg cs else .any
 | .g9 [] => .g9 []
 | .w6 _ => .any
 | .fn p f g [] => .fn p f g []
 | v=>bif vu v then v else .any
def ex (tm:Tm):AP->AV
 | .t n=>tg tm n
 | .c v=>cv v
def kq (k k':IntKind):Bool:=decide (k=k')
def bD (op:BinOp) (k:IntKind) (a:Int) (k':IntKind) (b:Int) (K:AV->Prop):Prop:=match op with
 | .lss=>bif kq k k' then AF (a<b) (b<=a) (K (.bool true)) (K (.bool false)) else False
 | .leq=>bif kq k k' then AF (a<=b) (b<a) (K (.bool true)) (K (.bool false)) else False
 | .gtr=>bif kq k k' then AF (b<a) (a<=b) (K (.bool true)) (K (.bool false)) else False
 | .geq=>bif kq k k' then AF (b<=a) (a<b) (K (.bool true)) (K (.bool false)) else False
 | .eql=>bif kq k k' then AF (a=b) (a≠b) (K (.bool true)) (K (.bool false)) else False
 | .neq=>bif kq k k' then AF (a≠b) (a=b) (K (.bool true)) (K (.bool false)) else False
 | op=>AD op k a k' b K
noncomputable def RP (mx:Bool) (k:IntKind) (K:AV->Prop) (a:Int) (l:List AV):Prop :=
 List.rec (motive:=λ_=>Int->Prop) (λ a=>K (.int k a)) (λ v _ ih a=>match v with
  | .int _ b=>bif mx then AF (a<b) (b<=a) (ih b) (ih a) else AF (b<a) (a<=b) (ih b) (ih a)
  | _=>False) l a
def zz:List AV->Nat->AV
 | [],_ => .any
 | v::_,0=>v
 | _::r,n+1=>zz r n
def P7 (s:Nat):List Nat->Bool
 | []=>true
 | b9 => !(JT s b9)
def RQ:List Nat->Bool
 | []=>true
 | s::r=>bif EZ s then false else RQ r
def gU (M:Mem) (k t:Nat) (K:Nat->List (List AV)->Prop):Prop:=match c8 M k with
 | some (_,c)=>match t with
  | 0=>match c with
   | .rw z es=>K z es
   | _=>False
  | i+1=>match c with
   | .mx rows=>BH rows i K
   | _=>False
 | none=>False
def YC (M:Mem) (v:AV) (K:List (List AV)->Prop):Prop:=match v with
 | .sl _ es=>K es
 | .nil=>K []
 | .dm (.bool _)=>K []
 | .row key t z off len=>gU M key t λ z' es=>bif Nat.beq z z' then B9 es off len K else False
 | _=>False
def R9 (q:Bool) (M:Mem) (b9:List Nat) (v:AV) (K:AV->Prop):Prop:=match v with
 | .int k n=>K (.int k n)
 | .bool b=>K (.bool b)
 | .sl l es=>K (.sl l es)
 | .dm c=>K (.dm c)
 | .nil=>K (.sl false [])
 | .row key t z off len=>match c8 M key with
  | some (s,.rw z' es)=>match t with
   | 0=>bif Nat.beq z z' then bif P7 s b9 then BF es off len λ es=>K (.sl q es) else False else False
   | _+1=>False
  | some (_,.mx rows)=>match t with
   | 0=>False
   | i+1=>match b9 with
    | []=>BH rows i λ z' es=>bif Nat.beq z z' then BF es off len λ es=>K (.sl q es) else False
    | b::r=>bif RQ (b::r) then BH rows i λ z' es=>bif Nat.beq z z' then BF es off len λ es=>K (.sl q es) else False else False
  | _=>False
 | _=>False
noncomputable def Z1 (q:Bool) (M:Mem) (b9:List Nat) (l:List AV):(List AV->Prop)->Prop :=
 List.rec (motive:=λ_=>(List AV->Prop)->Prop) (λ K=>K []) (λ v _ ih K=>R9 q M b9 v λ v'=>ih λ r'=>K (v'::r')) l
noncomputable def gZ (q:Bool) (M:Mem) (b9:List Nat) (l:List (List AV)):(List (List AV)->Prop)->Prop :=
 List.rec (motive:=λ_=>(List (List AV)->Prop)->Prop) (λ K=>K []) (λ v _ ih K=>Z1 q M b9 v λ v'=>ih λ r'=>K (v'::r')) l
noncomputable def WC (q:Bool) (M:Mem) (b9:List Nat) (v:AV) (K:AV->Prop):Prop:=match v with
 | .row key 0 z off len=>match c8 M key with
  | some (s,.bs z' es)=>bif Nat.beq z z' then bif P7 s b9 then bif Nat.beq off 0 then AM (len=es.length) (gZ q M b9 es λ es=>K (.sl q es)) else False else False else False
  | some (_,.mx rows)=>match b9 with
   | []=>bif Nat.beq z 1 then CW q rows off len λ es=>K (.sl q es) else False
   | _::_=>False
  | _=>R9 q M b9 (.row key 0 z off len) K
 | v=>R9 q M b9 v K
noncomputable def hH (q:Bool) (M:Mem) (b9:List Nat) (l:List AV):(List AV->Prop)->Prop :=
 List.rec (motive:=λ_=>(List AV->Prop)->Prop) (λ K=>K []) (λ v _ ih K=>WC q M b9 v λ v'=>ih λ r'=>K (v'::r')) l
noncomputable def PA (q:Bool) (M:Mem) (b9:List Nat) (v:AV) (K:AV->Prop):Prop:=match v with
 | .agg cs=>hH q M b9 cs λ cs=>K (.agg cs)
 | v=>WC q M b9 v K
noncomputable def WD (tm:Tm) (M:Mem) (b9:List Nat) (l:List AP):(List AV->Prop)->Prop :=
 List.rec (motive:=λ_=>(List AV->Prop)->Prop) (λ K=>K []) (λ x _ ih K=>PA true M b9 (ex tm x) λ v=>ih λ vs=>K (v::vs)) l
noncomputable def Z2 (M:Mem) (b9:List Nat) (v:AV) (K:AV->Prop):Prop:=match v with
 | .nil=>K .nil
 | v=>PA true M b9 v K
noncomputable def hJ (tm:Tm) (M:Mem) (b9:List Nat) (l:List AP):(List AV->Prop)->Prop :=
 List.rec (motive:=λ_=>(List AV->Prop)->Prop) (λ K=>K []) (λ x _ ih K=>Z2 M b9 (ex tm x) λ v=>ih λ vs=>K (v::vs)) l
noncomputable def RD (tm:Tm) (l:List AP):(List AV->Prop)->Prop :=
 List.rec (motive:=λ_=>(List AV->Prop)->Prop) (λ K=>K []) (λ x _ ih K=>fV (ex tm x) λ v=>ih λ vs=>K (v::vs)) l
def Y8 (tm:Tm) (o:Option AP) (K:Option Int->Prop):Prop:=match o with
 | none=>K none
 | some x=>match ex tm x with
  | .int _ n=>K (some n)
  | _=>False
def eR (es:List (List AV)) (K:Nat->Prop):Prop:=match es with
 | []=>K 0
 | [_]=>K 1
 | [_,_]=>K 2
 | [_,_,_]=>K 3
 | [_,_,_,_]=>K 4
 | es=>K es.length
noncomputable def bG (tm:Tm) (z:Nat) (l:List AP):(List (List AV)->Prop)->Prop :=
 List.rec (motive:=λ_=>(List (List AV)->Prop)->Prop) (λ K=>K []) (λ x _ ih K=>fC (ex tm x) λ cs=>bif Nat.beq cs.length z then ih λ es=>K (cs::es) else False) l
noncomputable def dL (tm:Tm) (ps:List (Nat × Nat × AP)):List AV->(List AV->Prop)->Prop :=
 List.rec (motive:=λ_=>List AV->(List AV->Prop)->Prop) (λ cells K=>K cells) (λ p _ ih cells K=>fC (ex tm p.2.2) λ vs=>bif Nat.beq vs.length p.2.1 then bif Nat.ble (p.1+p.2.1) cells.length then fL (splice cells p.1 vs) λ cells=>ih cells K else False else False) ps
def PT (tm:Tm):List AP->List AV
 | []=>[]
 | x::r=>ex tm x::PT tm r
def QV (tb:List Nat) (n:Int) (K:Nat->Prop):Prop:=0<=n /\ ∃ v,tb[n.toNat]? = some v/\K v
noncomputable def fY (tm:Tm) (l:List AP):(List AV->Prop)->Prop :=
 List.rec (motive:=λ_=>(List AV->Prop)->Prop) (λ K=>K []) (λ x _ ih K=>fF (ex tm x) λ v=>ih λ cs=>K (v::cs)) l
def gE:AV->Bool
 | .agg _=>false | .fn _ _ _ _=>false | .g9 _=>false | .any=>false
 | _=>true
def VW:List AV->Bool
 | []=>true
 | v::r=>bif gE v then VW r else false
def QY (M:Mem) (v:AV):Option (Nat × Option (Nat × Nat × Nat)):=match v with
 | .row ky 0 1 0 1=>match c8 M ky with
  | some (_,.bs 1 [[.row k2 0 z 0 n]])=>some (ky,some (k2,z,n))
  | some (_,.rw 1 [[.nil]])=>some (ky,none)
  | _=>none
 | _=>none
def iH (tm:Tm) (M:Mem) (K:AV->Mem->Prop) (n:Nat) (x v:AP):Prop:=match ex tm x with
 | .ptr key t i j=>fC (ex tm v) λ vs=>bif Nat.beq vs.length n then (match c8 M key with
  | some (s,c)=>match t with
   | 0=>match c with
    | .bx cs=>bif Nat.beq i 0 then bif Nat.ble (j+vs.length) cs.length then fL (splice cs j vs) λ fr=>K (.g9 []) ((key,s,.bx fr)::M) else False else False
    | .rw z es=>bif D9 vs then BG es i j vs λ es'=>K (.g9 []) ((key,s,.rw z es')::M) else False
    | .bs _ _=>False
    | .mx rows=>match vs with
     | [.row ay 0 z 0 m]=>bif Nat.beq key ay then False else bif JJ key tm then False else bif H1 key M then False else bif Nat.beq j 0 then (match c8 M ay with
      | some (_,.rw z' es)=>bif Nat.beq z z' then fM (w3 ay M) λ M'=>AM (m=es.length) (CQ rows i z es λ w8=>K (.g9 []) ((key,s,.mx w8)::M')) else False
      | _=>False) else False
     | [.row ay (t2+1) z 0 m]=>bif Nat.beq key ay then bif Nat.beq j 0 then BH rows t2 λ z' es=>bif Nat.beq z z' then AM (m=es.length/\i<rows.length) (K (.g9 []) ((key,s,.vw ((List.range rows.length).set i t2) rows)::M)) else False else False else False
     | _=>False
    | .hx i0 _ rows=>match vs with
     | [.row ay 0 z 0 m]=>bif Nat.beq key ay then False else bif JJ key tm then False else bif H1 key M then False else bif Nat.beq j 0 then (match c8 M ay with
      | some (_,.rw z' es)=>bif Nat.beq z z' then fM (w3 ay M) λ M'=>AM (i=i0/\m=es.length) (CQ rows i z es λ w8=>K (.g9 []) ((key,s,.mx w8)::M')) else False
      | _=>False) else False
     | _=>False
    | .vw w rows=>match vs with
     | [.row ay (t2+1) z 0 m]=>bif Nat.beq key ay then bif Nat.beq j 0 then BH rows t2 λ z' es=>bif Nat.beq z z' then AM (m=es.length/\i<w.length /\ ∀ t∈w,t<rows.length) (K (.g9 []) ((key,s,.vw (w.set i t2) rows)::M)) else False else False else False
     | _=>False
   | i'+1=>match c with
    | .mx rows=>bif D9 vs then BH rows i' λ z es=>BG es i j vs λ es'=>CK rows i' z es es' λ w8=>K (.g9 []) ((key,s,.mx w8)::M) else False
    | _=>False
  | none=>False) else False
 | _=>False
def BV (r:AV) (K:AV->Prop):Prop:=(JH r\/QO r)/\K (LR r)
noncomputable def XE (L:Lib) (tm:Tm) (M:Mem) (b9:List Nat) (K:AV->Mem->Prop):DP->Prop
 | .q6 x=>fV (ex tm x) λ v=>K v M
 | .ak s z=>bif EZ s then GN s tm M λ k=>K (.row k 0 z 0 0) ((k,s,.rw z [])::M) else False
 | .pick c a b=>match ex tm c with
  | .bool true=>fV (ex tm a) λ v=>K v M
  | .bool false=>fV (ex tm b) λ v=>K v M
  | _=>False
 | .bin op x y=>match ex tm x,ex tm y with
  | .int k a,.int k' b=>bD op k a k' b λ v=>K v M
  | _,_=>False
 | .beq ne x y=>match ex tm x,ex tm y with
  | .bool a,.bool b=>fB (bif ne then !(a == b) else a == b) λ c=>K (.bool c) M
  | _,_=>False
 | .un op x=>match ex tm x with
  | .int k n=>CZ op k n λ v=>K v M
  | .bool b=>match op with
   | .not=>fB (!b) λ c=>K (.bool c) M
   | _=>False
  | _=>False
 | .conv k x=>match ex tm x with
  | .int _ n=>A4 k n λ v=>K (.int k v) M
  | _=>False
 | .box s x=>fC (ex tm x) λ cs=>GN s tm M λ k=>K (.ptr k 0 0 0) ((k,s,.bx cs)::M)
 | .alloc s zero=>bif D9 zero then (GN s tm M λ k=>K (.ptr k 0 0 0) ((k,s,.bx zero)::M)) else False
 | .build zero parts=>bif D9 zero then dL tm parts zero λ cs=>K (.agg cs) M else False
 | .c7 s z parts=>bif EZ s then bG tm z parts λ es=>eR es λ n=>GN s tm M λ k=>bif U3 es then K (.row k 0 z 0 n) ((k,s,.rw z es)::M) else K (.row k 0 z 0 n) ((k,s,.bs z es)::M) else False
 | .bn x off=>match ex tm x with
  | .ptr key t i j=>K (.ptr key t i (j+off)) M
  | .w6 cs=>fL (cs.drop off) λ cs=>K (.w6 cs) M
  | _=>False
 | .qf x off n agg=>match ex tm x with
  | .agg cs=>match part cs off n with
   | some ds=>fL ds λ ds=>rm agg ds λ v=>K v M
   | none=>False
  | _=>False
 | .aq arr z x i=>match ex tm i with
  | .int _ n=>match arr,ex tm x with
   | some len,.ptr key t i' j=>AM (0<=n/\n<(len:Int)) (K (.ptr key t i' (j+n.toNat*z)) M)
   | some len,.w6 cs=>AM (0<=n/\n<(len:Int)) (fL (cs.drop (n.toNat*z)) λ cs=>K (.w6 cs) M)
   | none,.row key t z' off len=>bif Nat.beq z' z then AM (0<=n/\n<(len:Int)) (K (.ptr key t (off+n.toNat) 0) M) else False
   | none,.sl _ es=>AX es n z λ cs=>K (.w6 cs) M
   | _,_=>False
  | _=>False
 | .ld agg n x=>match ex tm x with
  | .ptr key t i j=>match c8 M key with
   | some (s,c)=>match t with
    | 0=>bif P7 s b9 then (match c with
     | .bx cs=>bif Nat.beq i 0 then (match part cs j n with
      | some ds=>fL ds λ ds=>rm agg ds λ v=>K v M
      | none=>False) else False
     | .rw _ es=>A9 es i j n λ ds=>fL ds λ ds=>bif D9 ds then rm agg ds λ v=>K v M else False
     | .bs _ es=>(match es[i]? with
      | some cs=>(match part cs j n with
       | some ds=>fL ds λ ds=>rm agg ds λ v=>K v M
       | none=>False)
      | none=>False)
     | .mx rows=>bif Nat.beq j 0 then bif Nat.beq n 1 then BN rows i λ r=>match r with
      | some (z,es)=>rm agg [.row key (i+1) z 0 es.length] λ v=>K v M
      | none=>rm agg [.nil] λ v=>K v M else False else False
     | .hx _ _ _=>False
     | .vw _ _=>False) else False
    | i'+1=>match c,b9 with
     | .mx rows,[]=>BH rows i' λ_ es=>A9 es i j n λ ds=>fL ds λ ds=>bif D9 ds then rm agg ds λ v=>K v M else False
     | .mx rows,b::r=>bif RQ (b::r) then BH rows i' λ_ es=>A9 es i j n λ ds=>fL ds λ ds=>bif D9 ds then rm agg ds λ v=>K v M else False else False
     | _,_=>False
   | none=>False
  | .w6 cs=>match part cs 0 n with
   | some ds=>fL ds λ ds=>bif D9 ds then rm agg ds λ v=>K v M else False
   | none=>False
  | _=>False
 | .ya agg n x=>match ex tm x with
  | .w6 cs=>match part cs 0 n with
   | some ds=>fL ds λ ds=>bif D9 ds then rm agg ds λ v=>K v M else False
   | none=>False
  | _=>False
 | .st n x v=>iH tm M K n x v
 | .ou s n x v=>match ex tm x with
  | .ptr key 0 _ _=>(match c8 M key with
   | some (s',_)=>bif Nat.beq s' s then iH tm M K n x v else False
   | none=>False)
  | _=>False
 | .n7 f xs=>RD tm xs λ vs=>bif vs.all dq then AB L f (vs.map yp) λ r=>BV r λ r=>K r M else False
 | .mk s z bytes zero l c=>match ex tm l,ex tm c with
  | .int _ a,.int _ b=>bif Nat.beq zero.length z then bif D9 zero then match zero with
   | [.nil]=>bif EZ s then C6 a b bytes λ rows n=>GN s tm M λ k=>K (.row k 0 z 0 n) ((k,s,.mx rows)::M) else False
   | zero=>bif EZ s then (B8 a b bytes zero λ es n=>GN s tm M λ k=>K (.row k 0 z 0 n) ((k,s,.rw z es)::M)) else False else False else False
  | _,_=>False
 | .jg z x lo hi=>Y8 tm lo λ lo=>Y8 tm hi λ hi=>match ex tm x with
  | .sl l es=>CR z es lo hi λ es=>K (.sl l es) M
  | .row key t z' off len=>bif Nat.beq z' z then B1 lo hi len λ a h=>K (.row key t z (off+a) (h-a)) M else False
  | .nil=>(match lo,hi with
   | none,none=>K .nil M
   | some a,none=>AM (a=0) (K .nil M)
   | none,some h=>AM (h=0) (K .nil M)
   | some a,some h=>AM (a=0/\h=0) (K .nil M))
  | _=>False
 | .ext x i=>match ex tm x with
  | .g9 vs=>f2 (zz vs i) λ v=>K v M
  | _=>False
 | .len x=>match ex tm x with
  | .sl _ es=>AR es λ n=>K (.int .i64 (n:Int)) M
  | .nil=>K (.int .i64 0) M
  | .row _ _ _ _ n=>K (.int .i64 (n:Int)) M
  | _=>False
 | .mm mx xs=>match PT tm xs with
  | .int k a::r=>RP mx k (λ v=>K v M) a r
  | _=>False
 | .app s z bytes x y=>bif Nat.ble 800000 s then False else (
  match QY M (ex tm y) with
  | some (ky,some (k2,z2,n2))=>match ex tm x with
   | .row key 0 z' off len=>bif Nat.beq off 0 then bif Nat.beq z' 1 then bif Nat.beq z 1 then bif Nat.beq key k2 then False else bif Nat.beq key ky then False else bif Nat.beq k2 ky then False else (match c8 M k2 with
    | some (_,.rw z3 es)=>bif Nat.beq z2 z3 then (match c8 M key with
     | some (s',.mx rows)=>fM (w3 key (w3 k2 (w3 ky M))) λ M'=>AM (n2=es.length) (C7 rows len (some (z2,es)) bytes λ w8 n=>GN s tm M λ k=>K (.row k 0 z 0 n) ((k,s',.mx w8)::M'))
     | _=>False) else False
    | _=>False) else False else False else False
   | .nil=>bif EZ s then bif Nat.beq z 1 then (match c8 M k2 with
    | some (_,.rw z3 es)=>bif Nat.beq z2 z3 then fM (w3 k2 M) λ M'=>AM (n2=es.length/\bytes<=140737488355328) (GN s tm M λ k=>K (.row k 0 z 0 1) ((k,s,.mx [some (z2,es)])::M')) else False
    | _=>False) else False else False
   | _=>False
  | some (ky,none)=>match ex tm x with
   | .row key 0 z' off len=>bif Nat.beq off 0 then bif Nat.beq z' 1 then bif Nat.beq z 1 then bif Nat.beq key ky then False else (match c8 M key with
     | some (s',.mx rows)=>fM (w3 key M) λ M'=>C7 rows len none bytes λ w8 n=>GN s tm M λ k=>K (.row k 0 z 0 n) ((k,s',.mx w8)::M')
     | _=>False) else False else False else False
   | .nil=>bif EZ s then bif Nat.beq z 1 then AM (bytes<=140737488355328) (GN s tm M λ k=>K (.row k 0 z 0 1) ((k,s,.mx [none])::M)) else False else False
   | _=>False
  | none=>YC M (ex tm y) λ ys=>match ex tm x with
   | .row key 0 z' off len=>bif Nat.beq off 0 then bif Nat.beq z' z then (match c8 M key with
    | some (s',.rw np es)=>bif Nat.beq np z then fM (w3 key M) λ M'=>(B6 es len ys z bytes λ es' n=>GN s tm M λ k=>K (.row k 0 z 0 n) ((k,s',.rw z es')::M')) else False
    | _=>False) else False else False
   | .row key (i+1) z' off len=>bif Nat.beq off 0 then bif Nat.beq z' z then (match c8 M key with
    | some (sk,.mx rows)=>fM (w3 key M) λ M'=>BH rows i λ np es=>bif Nat.beq np z then (B6 es len ys z bytes λ es' n => ∀ s' v,GN s tm M λ k=>K (.row k 0 z 0 n) ((k,s',.rw z es')::(key,sk,.hx i v (rows.set i none))::M')) else False
    | _=>False) else False else False
   | .nil=>bif EZ s then CT ys z bytes λ es n=>GN s tm M λ k=>K (.row k 0 z 0 n) ((k,s,.rw z es)::M) else False
   | _=>False)
 | .call f xs=>WD tm M b9 xs λ vs=>AB L f vs λ r=>K r M
 | .c9 f xs=>match b9 with
  | [s]=>RD tm xs λ vs=>yB L s f vs tm M K
  | _=>RD tm xs λ vs=>A6 L f vs tm M K
 | .z0 s f xs=>bif EZ s then hJ tm M b9 xs λ vs=>D4 L f vs λ z es n=>GN s tm M λ k=>K (.row k 0 z 0 n) ((k,s,.rw z es)::M) else False
 | .ug ne x=>match ex tm x with
  | .nil=>fB (xor true ne) λ c=>K (.bool c) M
  | .dm (.bool b)=>fB (xor b ne) λ c=>K (.bool c) M
  | .sl _ es=>AM (es≠[]) (fB (xor false ne) λ c=>K (.bool c) M)
  | .row _ _ _ _ n=>AM (0<n) (fB (xor false ne) λ c=>K (.bool c) M)
  | _=>False
 | .bad=>False
 | .nm x=>match ex tm x with
  | .ptr key t i j=>K (.ptr key t i j) M
  | _=>False
 | .gd x=>match ex tm x with
  | .nil=>K (.int .i64 0) M
  | _=>False
 | .oy s z bytes x y=>match ex tm x,ex tm y with
  | .nil,.int _ n=>bif EZ s then AM (0<n/\n*bytes<=D5/\n<=9223372036854775807) (GN s tm M λ k=>K (.row k 0 z 0 n.toNat) ((k,s,.rw z [])::M)) else False
  | _,_=>False
 | .di s f xs=>RD tm xs λ vs=>match vs with
  | .ptr key 0 0 0::rest=>bif YR rest then yC L s f key rest M K else False
  | _=>False
 | .iw tb x=>match ex tm x with
  | .int _ n=>QV tb n λ v=>K (.int .u8 v) M
  | _=>False
 | .rj p f xs=>fY tm xs λ cs=>K (.fn (p&&cs.isEmpty) f (L.num f) cs) M
 | .q8 x xs=>match ex tm x with
  | .fn true f g []=>AM (g=L.num f) (WD tm M [] xs λ vs=>AB L f vs λ r=>K r M)
  | .fn true f g (c::cs)=>AM (g=L.num f) (PA true M [] (.agg (c::cs)) λ v=>WD tm M [] xs λ vs=>AB L f (v::vs) λ r=>K r M)
  | .fn false f g cs=>bif VW cs then AM (g=L.num f) (RD tm xs λ vs=>fL (vs++cs) λ vs=>A6 L f vs tm M K) else False
  | _=>False
def Ek (key:Nat):Tm->Tm
 | []=>[]
 | (j,v)::r=>bif PL key v then (j,.any)::Ek key r else (j,v)::Ek key r
def xk (v:AV) (tm:Tm) (K:Tm->Prop):Prop:=match v with
 | .row key (_+1) _ _ _=>fT (Ek key tm) K
 | _=>K tm
noncomputable def XI (L:Lib) (o:AI) (ih:(Tm->Mem->Prop)->Tm->Mem->Prop) (K:Tm->Mem->Prop) (tm:Tm) (M:Mem):Prop:=match o with
 | ⟨some d,.app s z b x y,none,b9⟩=>XE L tm M b9 (λ v M=>xk (ex tm x) tm λ tm=>ih K ((d,v)::tm) M) (.app s z b x y)
 | ⟨some d,op,none,b9⟩=>XE L tm M b9 (λ v M=>ih K ((d,v)::tm) M) op
 | ⟨none,op,none,b9⟩=>XE L tm M b9 (λ_ M=>ih K tm M) op
 | ⟨dst,op,some (g,w),b9⟩=>match tg tm g with
  | .bool b=>fB (b == w) λ c=>match c,dst with
   | true,some d=>XE L tm M b9 (λ v M=>ih K ((d,v)::tm) M) op
   | true,none=>XE L tm M b9 (λ_ M=>ih K tm M) op
   | false,some d=>ih K ((d,.g9 [])::tm) M
   | false,none=>ih K tm M
  | .g9 []=>match dst with
   | some d=>ih K ((d,.g9 [])::tm) M
   | none=>ih K tm M
  | _=>False
noncomputable def XO (L:Lib) (l:List AI):(Tm->Mem->Prop)->Tm->Mem->Prop :=
 List.rec (motive:=λ_=>(Tm->Mem->Prop)->Tm->Mem->Prop) (λ K tm M=>K tm M) (λ o _ ih K tm M=>XI L o ih K tm M) l
noncomputable def XS (L:Lib) (Q:Tm->Mem->Prop) (ih:List It->Tm->Mem->Prop) (k:List It) (tm:Tm) (M:Mem):Prop:=match k with
 | []=>Q tm M
 | it::k=>match it with
  | .g8 _=>ih k tm M
  | .ki ts ss=>fN (mask 0 ts) λ m=>fT (ye m tm) λ tm=>match ss with
   | []=>ih k tm M
   | _::_=>False
  | .lp c=>AA L (.lp c::k) tm M Q
  | .code c=>match c with
   | .skip=>ih k tm M
   | .ops l _=>XO L l (λ tm M=>ih k tm M) tm M
   | .dr c ts ss=>ih (.code c :: .ki ts ss::k) tm M
   | .scope c=>ih (.code c::k) tm M
   | .seq a b=>ih (.code a :: .code b::k) tm M
   | .cond x a b=>match ex tm x with
    | .bool b'=>fB b' λ c=>match c with
     | true=>ih (.code a::k) tm M
     | false=>ih (.code b::k) tm M
    | _=>False
   | .block id c=>ih (.code c :: .g8 id::k) tm M
   | .loop c=>AA L (.lp c::k) tm M Q
   | .exit id=>match DJ id k with
    | some k'=>ih k' tm M
    | none=>False
   | .ret=>Q tm M
noncomputable def XK (L:Lib) (Q:Tm->Mem->Prop) (n:Nat):List It->Tm->Mem->Prop :=
 Nat.rec (motive:=λ_=>List It->Tm->Mem->Prop) (λ k tm M=>AA L k tm M Q) (λ_ ih k tm M=>XS L Q ih k tm M) n
def V6 (tm:Tm) (M:Mem) (r:I0) (K:AV->Prop):Prop:=match r with
 | .tmp t=>f2 (tg tm t) K
 | .cell t agg n=>match tg tm t with
  | .ptr key 0 i j=>match c8 M key with
   | some (_,.bx cs)=>bif Nat.beq i 0 then (match part cs j n with
    | some ds=>fL ds λ ds=>rm agg ds K
    | none=>False) else False
   | _=>False
  | _=>False
noncomputable def ZO (tm:Tm) (M:Mem) (l:List I0):(List AV->Prop)->Prop :=
 List.rec (motive:=λ_=>(List AV->Prop)->Prop) (λ K=>K []) (λ x _ ih K=>V6 tm M x λ v=>ih λ vs=>K (v::vs)) l
noncomputable def gY (q:Bool) (M:Mem) (l:List AV):(List AV->Prop)->Prop :=
 List.rec (motive:=λ_=>(List AV->Prop)->Prop) (λ K=>K []) (λ x _ ih K=>PA q M [] x λ v=>ih λ vs=>K (v::vs)) l
def Rf (vs:List AV) (K:AV->Prop):Prop:=match vs with
 | [v]=>K v
 | vs=>K (.g9 vs)
def AJ (a r:AV):Prop:=a=r/\A7 r
noncomputable def PI (fn:AFn) (r:AV) (tm:Tm) (M:Mem):Prop:=ZO tm M fn.res λ vs=>gY false M vs λ vs=>Rf vs λ v=>AJ v r
end Go.g6
