/-
  Functions: what the abstract machine says of a call, the model does.
-/
import Derived.Test.YtmalpgkkffcbfaaGreatB4
import Derived.Test.YtmalpgkkffcbfaaGreatB1
import Derived.IntWalk
set_option linter.unusedSimpArgs false
set_option linter.unusedVariables false
set_option linter.unnecessarySimpa false
namespace Go.b8
open Go.RowKit
section
variable {P:Program} {num:Nat->Nat} {L:Lib}
def ProgOK (P : Program) (num : Nat → Nat) (L : Lib) : Prop := (∀ f fa, L f = some fa → ∃ fn, P.funcs[num f]? = some fn ∧ okFn P num fn fa = true ∧ (fn.name == "runtime.NumGoroutine") = false) ∧ L.num = num
theorem qC : ∀ (args:List AV) (k i:Nat),e5 (CN k args) i=if k<=i then (match args[i-k]? with|some v=>v|none => .any) else .any
 | [],k,i=>by simp [CN,e5]
 | v::r,k,i=>by
  simp only[CN,e5];by_cases h:i=k
  ·subst h;simp
  ·rw[if_neg h,qC r (k+1) i]
   by_cases h2:k<=i
   ·rw[if_pos h2,if_pos (by omega)]
    have:i-k=(i-(k+1))+1:=by omega
    rw[this];simp
   ·rw[if_neg h2,if_neg (by omega)]
section
variable {B:Nat} {S:Nat->Prop} {w0:World} {m0:M} {N:Nat}
def ZH (tmps:Array Value):ResultVar->Sem Value
 | .tmp t=>pure (tmps.getD t undef)
 | .cell x t=>do loadVar t (<-asAddr (tmps.getD x undef))
theorem Rv {m:M} {x v:AV} {u:Value} (h:HF x=some v) (s9:CV B S m x u):CA B S m v u:=by
 cases s9 with
 | any=>simp [HF]at h
 | e6=>simp [HF]at h
 | ca hc =>
  have:x=v:=by
   cases hc with
   | one hc=>cases hc with
    | rd hr=>cases hr<;>simpa [HF] using h
    | _=>simpa [HF] using h
   | fn=>simpa [HF] using h
   | ub=>simpa [HF] using h
   | agg=>simpa [HF] using h
  subst this;exact hc
theorem gF {m:M} {a:Act} {st:St} (hf:FD B S w0 m0 N (e5 st.tm) m a) (j6:m.own=st.own) : ∀ {rv:List ResultVar} {ra:List IR} {vs:List AV},LZ P rv ra=true->ra.mapM (EX st)=some vs ->
  ∃ us:List Value,(rv.mapM (ZH a.tmps)).run P m.w = .ok us m.w/\vs.length=us.length /\ ∀ (j:Nat) (c:AV) (v:Value),vs[j]? = some c->us[j]? = some v->CA B S m c v
 | [],[],vs,_,h=>by
  simp at h;subst h;exact ⟨[],by simp,rfl,λ j c v hc=>by simp at hc⟩
 | .tmp t::r,.tmp t'::l,vs,g6,h=>by
  simp only[LZ,Bool.and_eq_true,beq_iff_eq]at g6;obtain ⟨rfl,g6⟩:=g6;simp only[List.mapM_cons,Option.bind_eq_bind,Option.pure_def]at h;cases hv:EX st (.tmp t) with
  | none=>simp [hv]at h
  | some v =>
   cases hr:l.mapM (EX st) with
   | none=>simp [hv,hr]at h
   | some vr =>
    simp [hv,hr]at h;subst h;obtain ⟨us,h1,h2,h3⟩:=gF hf j6 g6 hr;have s9:=hf.tm t;have lu:CA B S m v (a.tmps.getD t undef):=Rv hv s9;refine ⟨a.tmps.getD t undef::us,?_,by simp [h2],λ j c u hc hu => ?_⟩
    ·simp only[List.mapM_cons,Sem.run_bind,ZH,Sem.run_pure,Result.andThen_ok,h1]
    ·cases j with
     | zero =>
      obtain rfl:v=c:=by simpa using hc
      obtain rfl:a.tmps.getD t undef=u:=Option.some.inj hu;exact lu
     | succ j=>exact h3 j c u (by simpa using hc) (by simpa using hu)
 | .cell x t::r,.cell x' agg n::l,vs,g6,h=>by
  simp only[LZ,Bool.and_eq_true,beq_iff_eq]at g6;obtain ⟨⟨⟨rfl,il⟩,hn⟩,g6⟩:=g6;simp only[List.mapM_cons,Option.bind_eq_bind,Option.pure_def]at h;cases hv:EX st (.cell x agg n) with
  | none=>simp [hv]at h
  | some v =>
   cases hr:l.mapM (EX st) with
   | none=>simp [hv,hr]at h
   | some vr =>
    simp [hv,hr]at h;subst h;obtain ⟨us,h1,h2,h3⟩:=gF hf j6 g6 hr;have s9:=hf.tm x;simp only[EX]at hv;split at hv
    ·rename_i s u i j hx
     rw[hx]at s9;split at hv
     ·rename_i cs gj
      rw[<-j6]at gj;obtain ⟨ad,w4,ht,hb⟩:=SN s9;obtain ⟨b,g,arr,e,l9,hg,aq,mh,m5,gm⟩:=tG hf.mem gj;obtain ⟨AmW,gu⟩:=Y1 hv m5;have hld:=gJ (P:=P) t agg n (aN (by simpa using il)) (by
       cases agg
       ·simpa using hn
       ·exact NR (by simpa using hn)) ad aq mh m.w (λ q u' hq=>by
       have g9:q<aq.length:=(zS hq).1;obtain ⟨Bu,jz⟩:=hg (by omega);obtain ⟨g',du,rfl⟩:=hb b l9;obtain rfl:g=g':=by rw[Bu]at du;simpa using du
       rw[G0,XG jz];exact gm q u' hq)
      have Lk:(ZH a.tmps (.cell x t)).run P m.w = .ok (if agg then .agg aq.toArray else aq.getD 0 undef) m.w:=by
       show (do loadVar t (<-asAddr (a.tmps.getD x undef)):Sem Value).run P m.w=_;rw[w4];simpa [asAddr,Instr.loadAt,Instr.sureAddr] using hld
      have lu:CA B S m v (if agg then .agg aq.toArray else aq.getD 0 undef):=by
       unfold II at hv;cases agg with
       | true =>
        simp only[if_true,Option.some.injEq]at hv;subst hv;exact .agg cs aq m5
       | false =>
        simp only[Bool.false_eq_true,if_false]at hv ⊢;split at hv
        ·rename_i c
         simp only[Option.some.injEq]at hv;subst hv;obtain ⟨u',kz,u7⟩:=SM m5 (j:=0) (c:=c) rfl;simp only[List.getD,kz,Option.getD_some];exact .one u7
        ·cases hv
      refine ⟨(if agg then .agg aq.toArray else aq.getD 0 undef)::us,?_,by simp [h2],λ j' c u' hc hu => ?_⟩
      ·rw[List.mapM_cons,Sem.run_bind,Lk,Result.andThen_ok,Sem.run_bind,h1,Result.andThen_ok]
       rfl
      ·cases j' with
       | zero =>
        obtain rfl:v=c:=by simpa using hc
        obtain rfl:=Option.some.inj hu;exact lu
       | succ j'=>exact h3 j' c u' (by simpa using hc) (by simpa using hu)
     ·cases hv
    ·cases hv
 | [],_::_,_,g6,_=>by simp [LZ]at g6
 | .tmp _::_,[],_,g6,_=>by simp [LZ]at g6
 | .cell _ _::_,[],_,g6,_=>by simp [LZ]at g6
 | .tmp _::_,.cell _ _ _::_,_,g6,_=>by simp [LZ]at g6
 | .cell _ _::_,.tmp _::_,_,g6,_=>by simp [LZ]at g6
end
theorem kR (hP:ProgOK P num L) {f:Nat} {fa:AFn} (hL:L f=some fa) (us:Array Value) (w:World):(callFunc (num f) us).run P w = .ok (.enter (num f) us) w:=by
 obtain ⟨fn,h1,h2,h3⟩:=hP.1 f fa hL;have hb:fn.body.isNone=false:=by
  simp only[okFn,Bool.and_eq_true]at h2;cases hbd:fn.body with
  | none=>rw[hbd]at h2;simp at h2
  | some c=>rfl
 unfold callFunc;simp only[Sem.run_bind,run_program,Result.andThen_ok,h1,h3,hb,Bool.false_eq_true,if_false,Sem.run_pure]
theorem qD (hP:ProgOK P num L) {n:Nat} (hC:GM P num (CJ L n)) {f:Nat} {vs:List AV} {own:AH} {r:AV} {k6:AH} (h:C4 L (n+1) f vs own=some (r,k6)) (B:Nat) (S:Nat->Prop) (w0:World) (m:M) (us:List Value) (j6:m.own=own) (hm:BP B S w0 m) (hl:vs.length=us.length)
  (s9 : ∀ (j:Nat) (c:AV) (v:Value),vs[j]? = some c->us[j]? = some v->CV B S m c v) :
  Calls P (num f) us.toArray m.w λ e w' => ∃ u m',e = .returned u/\m'.w=w'/\m'.own=k6/\BP B S w0 m'/\DG B S m m'/\CV B S m' r u:=by
 rw[Q5]at h;cases hL:L f with
 | none=>simp [hL]at h
 | some fa =>
  simp only[hL]at h;split at h
  ·rename_i Gl
   split at h
   ·rename_i st n7
    split at h
    ·rename_i Rm Cm
     simp only[Option.some.injEq,Prod.mk.injEq]at h;obtain ⟨rfl,rfl⟩:=h;obtain ⟨fn,h1,h2,h3⟩:=hP.1 f fa hL;simp only[okFn,Bool.and_eq_true,beq_iff_eq,decide_eq_true_eq]at h2;obtain ⟨⟨⟨h4,h5⟩,h6⟩,h7⟩:=h2;split at h7
     ·rename_i c hc
      intro cs;have Bp:Frame.enter P (num f) us.toArray .normal=({ (default:Frame) with fn:=num f,kind := .normal }:Frame).at { tmps:=us.toArray++Array.replicate (fn.ntmps-us.toArray.size) undef,defers:=[] } [.code c]:=by
       simp [Frame.enter,Frame.at,h1,hc]
      have o7:us.length=fa.ah:=by rw[<-hl];exact Gl
      have Fp:FD B S w0 m fn.ntmps (e5 (CN 0 vs)) m { tmps:=us.toArray++Array.replicate (fn.ntmps-us.toArray.size) undef,defers:=[] }:=by
       refine ⟨hm,DG.refl m,λ i => ?_,by simp;omega,rfl⟩;rw[qC];simp only[Nat.zero_le,if_true,Nat.sub_zero];cases Qm:vs[i]? with
       | none=>exact .any _
       | some v =>
        have hi:i<us.length:=by rw[<-hl];exact (zS Qm).1
        have l9:(us.toArray++Array.replicate (fn.ntmps-us.toArray.size) undef).getD i undef=us[i]:=by
         rw[Array.getD_eq_getD_getElem?,Array.getElem?_append_left (by simpa using hi)];simp [hi]
        simp only[l9];exact s9 i v us[i] Qm (zE hi)
      obtain ⟨a',m',l7,Cp,ke,ni⟩:=AgN (m0:=m) hC { (default:Frame) with fn:=num f,kind := .normal } cs n [.code fa.body] ⟨CN 0 vs,own⟩ st n7 [.code c] (.code h7 .nil) m _ j6 Fp;obtain ⟨wz,hu1,Dw,Qk⟩:=gF (P:=P) ni ke h6 Cm;have ya:(results fn a'.tmps).run P m'.w = .ok (if h:wz.length=1 then wz[0] else .tuple wz.toArray) m'.w:=by
       have hr:results fn a'.tmps=(do let vs <-fn.results.mapM (ZH a'.tmps);pure (if h:vs.size=1 then vs[0] else .tuple vs)):=rfl;rw[hr,Sem.run_bind,Array.mapM_eq_mapM_toList];simp [hu1]
      refine ⟨.returned (if h:wz.length=1 then wz[0] else .tuple wz.toArray),m'.w,_,⟨_,m',rfl,rfl,ke,ni.mem,ni.ext,?_⟩,by rw[Bp];exact Cp,rfl,rfl,ni.defers,rfl,fn,h1,ya⟩;unfold G9;split
      ·rename_i v
       have xa:wz.length=1:=by rw[<-Dw];rfl
       rw[dif_pos xa];exact .ca (Qk 0 v wz[0] rfl (zE (by omega)))
      ·rename_i k8
       have xa : ¬ wz.length=1:=λ e=>by
        rw[<-Dw]at e;cases Rm with
        | nil=>simp at e
        | cons q qs=>cases qs with
         | nil=>exact k8 q rfl
         | cons=>simp at e
       rw[dif_neg xa];exact .e6 Rm wz Dw Qk
     ·cases h7
    ·cases h
   ·cases h
  ·cases h
theorem AfA (S:Nat->Prop) (w:World):BP w.heap.size S w ⟨λ_ _=>none,AH.emp,w⟩ :=
 ⟨Below.refl _ _,Nat.le_refl _,λ_ _ _=>rfl,λ s t b h=>by simp [AH.get,AH.emp]at h,λ s t s' t' b b' g h=>by simp [AH.get,AH.emp]at h⟩
theorem nH {n f:Nat} {vs:List AV} {own:AH} {r:AV × AH} (h:C4 L n f vs own=some r) : ∃ fa,L f=some fa:=by
 cases n with
 | zero=>simp [C4]at h
 | succ n =>
  rw[Q5]at h;cases hL:L f with
  | none=>simp [hL]at h
  | some fa=>exact ⟨fa,rfl⟩
theorem fW {n f:Nat} {vs:List AV} {r:AV} (h:HZ (λ vs=>C4 L n f vs AH.emp) vs=some r) : ∃ r0 o,C4 L n f vs AH.emp=some (r0,o)/\QF o false r0=some r/\A2 r:=by
 unfold HZ at h;cases he:C4 L n f vs AH.emp with
 | none=>simp [he]at h
 | some x =>
  obtain ⟨r0,o⟩:=x;simp only[he]at h;split at h
  ·rename_i r' hr
   split at h
   ·rename_i hc
    simp only[Option.some.injEq]at h;subst h;exact ⟨r0,o,rfl,hr,hc⟩
   ·cases h
  ·cases h
theorem cG {n f:Nat} {vs:List AV} {r:AV} (h:F4 L n f vs=some r) : ∃ aq,∃ x,C4 L n f aq AH.emp=some x:=by
 unfold F4 J8 at h;split at h
 ·split at h
  ·rename_i r1 r2 h1 h2
   obtain ⟨r0,o,h3,_⟩:=fW h1;exact ⟨_,_,h3⟩
  ·cases h
 ·obtain ⟨r0,o,h3,_⟩:=fW h
  exact ⟨_,_,h3⟩
theorem fX (hP:ProgOK P num L) {n:Nat} (ih:GM P num (CJ L n)) {f:Nat} {vs:List AV} {r:AV} (h:HZ (λ vs=>C4 L (n+1) f vs AH.emp) vs=some r) (S:Nat->Prop) (w:World) (us:List Value) (hl:vs.length=us.length)
  (lu : ∀ (j:Nat) (c:AV) (v:Value),vs[j]? = some c->us[j]? = some v->CA w.heap.size S ⟨λ_ _=>none,AH.emp,w⟩ c v) :
  Calls P (num f) us.toArray w λ e w' => ∃ u,e = .returned u/\Below w.heap.size w w'/\CV w.heap.size S ⟨λ_ _=>none,AH.emp,w'⟩ r u/\A2 r:=by
 obtain ⟨r0,o,h1,h2,h3⟩:=fW (L:=L) h;refine Calls.mono (qD hP ih h1 w.heap.size S w ⟨λ_ _=>none,AH.emp,w⟩ us rfl (AfA S w) hl λ j c v hc hv => .ca (lu j c v hc hv)) λ e w' ⟨u,m',he,hw,j6,mc,_,s9⟩ => ?_
 subst hw;refine ⟨u,he,mc.below,?_,h3⟩;refine DV.cv (m:=⟨λ_ _=>none,AH.emp,m'.w⟩) (Ag8 mc false (safe w.heap.size S ⟨λ_ _=>none,AH.emp,m'.w⟩) (λ l b hb hs => ?_) (λ s t g jj hg => ?_) (by rw[j6];exact h2) s9)
 ·rcases hs with h|⟨h,_⟩|h
  ·exact .inl h
  ·exact .inr (.inl ⟨h,λ s t jj=>by simp [AH.get,AH.emp]at jj⟩)
  ·exact .inr (.inr h)
 ·exact .inr (.inl ⟨(mc.ge jj hg).1,λ s t jj=>by simp [AH.get,AH.emp]at jj⟩)
theorem Rz (hP:ProgOK P num L) : ∀ n,GM P num (CJ L n):=by
 intro n;induction n with
 | zero =>
  exact ⟨λ f vs r h=>by obtain ⟨aq,x,h1⟩:=cG (L:=L) (n:=0) (f:=f) (vs:=vs) (r:=r) h;simp [C4]at h1,λ f vs own r h=>by change C4 L 0 f vs own=some r at h;simp [C4]at h,
   λ f vs r h=>by obtain ⟨aq,x,h1⟩:=cG (L:=L) (n:=0) (f:=f) (vs:=vs) (r:=r) h;simp [C4]at h1,λ f vs own r k6 h=>by change C4 L 0 f vs own=_ at h;simp [C4]at h,hP.2⟩
 | succ n ih =>
  refine ⟨λ f vs r h us w => ?_,λ f vs own r h us w => ?_,λ f vs r h S w us hl lu => ?_,λ f vs own r k6 h B S w0 m us j6 hm hl s9=>qD hP ih h B S w0 m us j6 hm hl s9,hP.2⟩
  ·obtain ⟨aq,x,h1⟩:=cG (L:=L) h
   obtain ⟨fa,hL⟩:=nH h1;exact kR hP hL us w
  ·obtain ⟨fa,hL⟩:=nH (L:=L) h
   exact kR hP hL us w
  ·have h:J8 (L.qb f) (λ vs=>C4 L (n+1) f vs AH.emp) vs=some r:=h
   unfold J8 at h;split at h
   ·rename_i q aq _ _
    split at h
    ·rename_i r1 r2 h1 h2
     split at h
     ·rename_i e
      subst e;obtain rfl:=Option.some.inj h;cases us with
      | nil=>simp at hl
      | cons u us =>
       have h0:=lu 0 _ u rfl rfl;have hu : ∃ a cap,u = .slice a 0 cap:=by
        cases h0 with
        | one h0=>cases h0 with
         | rd h0=>cases h0 with
          | jb l a cap=>exact ⟨a,cap,rfl⟩
          | sl l es b o a6 cap u k8=>exact absurd rfl k8
       obtain ⟨a,cap,rfl⟩:=hu;have key : ∀ b,a.isNone=b -> ∀ (j:Nat) (c:AV) (v:Value),(AV.bj (.bool b)::aq)[j]? = some c->(Value.slice a 0 cap::us)[j]? = some v->CA w.heap.size S ⟨λ_ _=>none,AH.emp,w⟩ c v:=λ b hb j c v hc hv=>by
        cases j with
        | zero =>
         obtain rfl:=Option.some.inj hc;obtain rfl:=Option.some.inj hv;exact .one (.rd (.emp b a cap hb))
        | succ j=>exact lu (j+1) c v hc hv
       cases hb:a.isNone with
       | true=>exact fX hP ih h1 S w _ (by simpa using hl) (key true hb)
       | false=>exact fX hP ih h2 S w _ (by simpa using hl) (key false hb)
     ·cases h
    ·cases h
   ·exact fX hP ih h S w us hl lu
end
end Go.b8
namespace Go.b8
abbrev OkF (P : Program) (num : Nat → Nat) (p : Nat × AFn) : Prop := ∃ fn, P.funcs[num p.1]? = some fn ∧ okFn P num fn p.2 = true ∧ (fn.name == "runtime.NumGoroutine") = false
theorem Agb {P:Program} {num:Nat->Nat} (l:List (Nat × AFn)) (h : ∀ p∈l,OkF P num p):ProgOK P num ⟨λ f=>l.lookup f,num⟩:=by
 refine ⟨?_,rfl⟩;intro f fa hf;have hm:(f,fa)∈l:=by
  clear h;change l.lookup f=some fa at hf;induction l with
  | nil=>simp at hf
  | cons x r ih =>
   obtain ⟨k,v⟩:=x;rw[List.lookup_cons]at hf;cases hk:(f == k) with
   | true =>
    rw[hk]at hf;have:f=k:=by simpa using hk
    subst this;simp at hf;simp [hf]
   | false =>
    rw[hk]at hf;exact List.mem_cons_of_mem _ (ih hf)
 exact h (f,fa) hm
end Go.b8
namespace Go.b8
section
variable {L:Lib}
def Cl.le (C C':Cl):Prop:=(∀ f vs r,C.pure f vs=some r->C'.pure f vs=some r)/\(∀ f vs o r,C.df f vs o=some r->C'.df f vs o=some r)/\C.num=C'.num
theorem kG {x y:Option (AV × AH)} {r:Nat × List (List AV)} (h : ∀ q,x=some q->y=some q) (hr:OT x=some r):OT y=some r:=by
 cases x with
 | none=>simp [OT]at hr
 | some q=>rw[h q rfl];exact hr
theorem Xr {C C':Cl} (h:C.le C') {a8:List Nat} {ρ:AP->AV} {own:AH} {op:DT} {E:B9} (he:c8 C a8 ρ own op=some E):c8 C' a8 ρ own op=some E:=by
 cases op with
 | call f xs =>
  simp only[c8]at he ⊢;split at he
  ·rename_i vs gm
   simp only[Option.map_eq_some_iff]at he ⊢;obtain ⟨r,hr,rfl⟩:=he;exact ⟨r,h.1 f vs r hr,rfl⟩
  ·cases he
 | c9 f xs =>
  simp only[c8]at he ⊢;split at he
  ·simp only[Option.map_eq_some_iff]at he ⊢
   obtain ⟨p,hp,rfl⟩:=he;have h1:=XC hp;exact ⟨p,XB h1.1 λ o ho=>h.2.1 f _ o _ (h1.2 o ho),rfl⟩
  ·simp only[Option.map_eq_some_iff]at he ⊢
   obtain ⟨r,hr,rfl⟩:=he;exact ⟨r,h.2.1 f _ own r hr,rfl⟩
 | pz p f xs=>simp only[c8]at he ⊢;rw[<-h.2.2];exact he
 | x7 s f xs =>
  simp only[c8,Option.map_eq_some_iff]at he ⊢;obtain ⟨p,hp,rfl⟩:=he;exact ⟨p,XF.2 λ o ho=>h.2.1 f _ o _ (XF.1 hp o ho),rfl⟩
 | s8 s f xs =>
  simp only[c8]at he ⊢;split at he
  ·rename_i vs gm
   simp only[Option.map_eq_some_iff]at he ⊢;obtain ⟨r,hr,rfl⟩:=he;exact ⟨r,kG (h.2.1 f vs AH.emp) hr,rfl⟩
  ·cases he
 | j5 f xs =>
  simp only[c8]at he ⊢;split at he
  ·rename_i hq
   rw[if_pos hq];split at he
   ·rename_i r hr
    rw[h.1 _ _ r hr];exact he
   ·cases he
  ·cases he
 | m4 x xs =>
  simp only[c8]at he ⊢;rw[<-h.2.2];split at he
  ·split at he
   ·rename_i hg
    rw[if_pos hg];split at he
    ·split at he
     ·rename_i vs gm
      simp only[Option.map_eq_some_iff]at he ⊢;obtain ⟨r,hr,rfl⟩:=he;exact ⟨r,h.1 _ vs r hr,rfl⟩
     ·cases he
    ·simp only[Option.map_eq_some_iff]at he ⊢
     obtain ⟨r,hr,rfl⟩:=he;exact ⟨r,h.2.1 _ _ own r hr,rfl⟩
    ·split at he
     ·rename_i vs gm
      simp only[Option.map_eq_some_iff]at he ⊢;obtain ⟨r,hr,rfl⟩:=he;exact ⟨r,h.1 _ vs r hr,rfl⟩
     ·cases he
   ·cases he
  ·cases he
 | _=>exact he
theorem Ahk {C C':Cl} (h:C.le C') {o:AI} {st j4:St} (he:CO C o st=some j4):CO C' o st=some j4:=by
 unfold CO at he ⊢;split at he
 ·simp only[Option.map_eq_some_iff]at he ⊢
  obtain ⟨E,h1,h2⟩:=he;exact ⟨E,Xr h h1,h2⟩
 ·exact he
 ·exact he
theorem NV {C C':Cl} (h:C.le C') : ∀ {l:List AI} {st j4:St},CZ C l st=some j4->CZ C' l st=some j4
 | [],st,j4,he=>he
 | o::r,st,j4,he=>by
  simp only[CZ]at he ⊢;cases hs:CO C o st with
  | none=>simp [hs]at he
  | some A7 =>
   rw[Ahk h hs];simp only[hs]at he;exact NV h he
theorem IL {C C':Cl} (h:C.le C') : ∀ {n n':Nat} {k:List It} {st j4:St},n<=n'->run C n k st=some j4->run C' n' k st=some j4:=by
 intro n;induction n with
 | zero=>intro n' k st j4 _ hr;simp [run]at hr
 | succ n ih =>
  intro n' k st j4 hn hr;obtain ⟨q,rfl⟩ : ∃ q,n'=q+1:=⟨n'-1,by omega⟩;have hq:n<=q:=by omega
  cases k with
  | nil=>exact hr
  | cons it k =>
   cases it with
   | c7 id=>simp only[run]at hr ⊢;exact ih hq hr
   | jr ts ss=>simp only[run]at hr ⊢;exact ih hq hr
   | lp c=>simp only[run]at hr ⊢;exact ih hq hr
   | code c =>
    cases c with
    | skip=>simp only[run]at hr ⊢;exact ih hq hr
    | ops l d =>
     simp only[run]at hr ⊢;cases hs:CZ C l st with
     | none=>simp [hs]at hr
     | some A7 =>
      rw[NV h hs];simp only[hs]at hr;exact ih hq hr
    | dr c ts ss=>simp only[run]at hr ⊢;exact ih hq hr
    | scope c=>simp only[run]at hr ⊢;exact ih hq hr
    | seq a b=>simp only[run]at hr ⊢;exact ih hq hr
    | cond x a b =>
     simp only[run]at hr ⊢;split at hr
     ·exact ih hq hr
     ·exact ih hq hr
     ·cases hr
    | block id c=>simp only[run]at hr ⊢;exact ih hq hr
    | loop c=>simp only[run]at hr ⊢;exact ih hq hr
    | exit id =>
     simp only[run]at hr ⊢;split at hr
     ·exact ih hq hr
     ·cases hr
    | ret=>exact hr
theorem VP {I I':List AV->Option (AV × AH)} (hI : ∀ vs r,I vs=some r->I' vs=some r) {vs:List AV} {r:AV} (h:HZ I vs=some r):HZ I' vs=some r:=by
 unfold HZ at h ⊢;cases he:I vs with
 | none=>simp [he]at h
 | some x=>rw[hI vs _ he];simpa [he] using h
theorem Agd {b:Bool} {I I':List AV->Option (AV × AH)} (hI : ∀ vs r,I vs=some r->I' vs=some r) {vs:List AV} {r:AV} (h:J8 b I vs=some r):J8 b I' vs=some r:=by
 unfold J8 at h ⊢;split at h
 ·split at h
  ·rename_i r1 r2 h1 h2
   rw[VP hI h1,VP hI h2];exact h
  ·cases h
 ·exact VP hI h
theorem oA : ∀ (n:Nat),(CJ L n).le (CJ L (n+1)):=by
 have df : ∀ n,(∀ f vs o r,C4 L n f vs o=some r->C4 L (n+1) f vs o=some r) -> ∀ f vs r,F4 L n f vs=some r->F4 L (n+1) f vs=some r:=by
  intro n hI f vs r h;exact Agd (λ vs r h=>hI f vs _ r h) h
 intro n;induction n with
 | zero =>
  have : ∀ f vs o r,C4 L 0 f vs o=some r->C4 L 1 f vs o=some r:=λ f vs o r h=>by simp [C4]at h
  exact ⟨df 0 this,this,rfl⟩
 | succ n ih =>
  have : ∀ f vs o r,C4 L (n+1) f vs o=some r->C4 L (n+2) f vs o=some r:=λ f vs o r h=>by
   rw[Q5]at h ⊢;cases hL:L f with
   | none=>simp [hL]at h
   | some fn =>
    simp only[hL]at h ⊢;split at h
    ·rename_i hp
     rw[if_pos hp];cases hr:run (CJ L n) n [.code fn.body] ⟨CN 0 vs,o⟩ with
     | none=>simp [hr]at h
     | some st =>
      rw[IL ih (Nat.le_succ n) hr];simpa [hr] using h
    ·cases h
  exact ⟨df (n+1) this,this,rfl⟩
theorem EN {n n':Nat} (h:n<=n'):(CJ L n).le (CJ L n'):=by
 induction h with
 | refl=>exact ⟨λ_ _ _ h=>h,λ_ _ _ _ h=>h,rfl⟩
 | step _ ih=>exact ⟨λ f vs r h=>(oA _).1 f vs r (ih.1 f vs r h),λ f vs o r h=>(oA _).2.1 f vs o r (ih.2.1 f vs o r h),rfl⟩
def Ev (L:Lib) (f:Nat) (vs:List AV) (r:AV):Prop := ∃ n,F4 L n f vs=some r
def FJ (L:Lib) (f:Nat) (vs:List AV) (r:AV):Prop := ∃ n,HZ (λ vs=>C4 L n f vs AH.emp) vs=some r
def GO (L:Lib) (f:Nat) (vs:List AV) (o:AH) (r:AV) (o':AH):Prop := ∃ n,C4 L n f vs o=some (r,o')
def jG (L:Lib) (f:Nat) (vs:List AV) (z:Nat) (es:List (List AV)):Prop := ∃ n,OT (C4 L n f vs AH.emp)=some (z,es)
theorem Ev.An {f:Nat} {vs:List AV} {r r':AV} (h:Ev L f vs r) (h':Ev L f vs r'):r=r':=by
 obtain ⟨n,hn⟩:=h;obtain ⟨n',oh⟩:=h';have h1:=(EN (L:=L) (Nat.le_max_left n n')).1 f vs r hn;have h2:=(EN (L:=L) (Nat.le_max_right n n')).1 f vs r' oh;rw[h1]at h2;exact Option.some.inj h2
theorem GO.An {f:Nat} {vs:List AV} {o:AH} {r r':AV} {o1 o2:AH} (h:GO L f vs o r o1) (h':GO L f vs o r' o2):r=r'/\o1=o2:=by
 obtain ⟨n,hn⟩:=h;obtain ⟨n',oh⟩:=h';have h1:=(EN (L:=L) (Nat.le_max_left n n')).2.1 f vs o _ hn;have h2:=(EN (L:=L) (Nat.le_max_right n n')).2.1 f vs o _ oh;rw[h1]at h2;simpa using h2
def AK (L:Lib) (k:List It) (st:St) (Q:St->Prop):Prop := ∃ n c j4,run (CJ L c) n k st=some j4/\Q j4
def AO (L:Lib) (l:List AI) (k:List It) (st:St) (Q:St->Prop):Prop := ∃ n c A7 j4,CZ (CJ L c) l st=some A7/\run (CJ L c) n k A7=some j4/\Q j4
variable {k:List It} {st:St} {Q:St->Prop}
theorem JT {it:It} {k':List It} {A7:St} (h : ∀ (C:Cl) (n:Nat),run C (n+1) (it::k) st=run C n k' A7):AK L (it::k) st Q↔AK L k' A7 Q:=by
 constructor
 ·rintro ⟨n,c,j4,hr,hq⟩
  cases n with
  | zero=>simp [run]at hr
  | succ n=>exact ⟨n,c,j4,by rw[<-h];exact hr,hq⟩
 ·rintro ⟨n,c,j4,hr,hq⟩
  exact ⟨n+1,c,j4,by rw[h];exact hr,hq⟩
theorem xZ:AK L [] st Q↔Q st:=by
 constructor
 ·rintro ⟨n,c,j4,hr,hq⟩
  cases n with
  | zero=>simp [run]at hr
  | succ n=>simp only[run,Option.some.injEq]at hr;exact hr ▸ hq
 ·exact λ h=>⟨1,0,st,rfl,h⟩
theorem xP {id:Nat}:AK L (.c7 id::k) st Q↔AK L k st Q:=JT λ_ _=>rfl
theorem xU {ts ss:List Nat}:AK L (.jr ts ss::k) st Q↔AK L k ⟨v8 st.tm ts,st.own.drop ss⟩ Q:=JT λ_ _=>rfl
theorem iW {c:BH}:AK L (.lp c::k) st Q↔AK L (.code c :: .lp c::k) st Q:=JT λ_ _=>rfl
theorem yE:AK L (.code .skip::k) st Q↔AK L k st Q:=JT λ_ _=>rfl
theorem xT {c:BH} {ts ss:List Nat}:AK L (.code (.dr c ts ss)::k) st Q↔AK L (.code c :: .jr ts ss::k) st Q:=JT λ_ _=>rfl
theorem yC {c:BH}:AK L (.code (.scope c)::k) st Q↔AK L (.code c::k) st Q:=JT λ_ _=>rfl
theorem yD {a b:BH}:AK L (.code (.seq a b)::k) st Q↔AK L (.code a :: .code b::k) st Q:=JT λ_ _=>rfl
theorem xQ {id:Nat} {c:BH}:AK L (.code (.block id c)::k) st Q↔AK L (.code c :: .c7 id::k) st Q:=JT λ_ _=>rfl
theorem xX {c:BH}:AK L (.code (.loop c)::k) st Q↔AK L (.code c :: .lp c::k) st Q:=JT λ_ _=>rfl
theorem xV {id:Nat} {k':List It} (h:DS id k=some k'):AK L (.code (.exit id)::k) st Q↔AK L k' st Q:=JT λ C n=>by simp [run,h]
theorem yB:AK L (.code .ret::k) st Q↔Q st:=by
 constructor
 ·rintro ⟨n,c,j4,hr,hq⟩
  cases n with
  | zero=>simp [run]at hr
  | succ n=>simp only[run,Option.some.injEq]at hr;exact hr ▸ hq
 ·exact λ h=>⟨1,0,st,rfl,h⟩
theorem xR {x:AP} {a b:BH} {t:Bool} (h:st.ev x = .bool t):AK L (.code (.cond x a b)::k) st Q↔if t=true then AK L (.code a::k) st Q else AK L (.code b::k) st Q:=by
 cases t
 ·simpa using JT (k' := .code b::k) (A7:=st) λ C n=>by simp [run,h]
 ·simpa using JT (k' := .code a::k) (A7:=st) λ C n=>by simp [run,h]
theorem yA {l:List AI} {d:Bool}:AK L (.code (.ops l d)::k) st Q↔AO L l k st Q:=by
 constructor
 ·rintro ⟨n,c,j4,hr,hq⟩
  cases n with
  | zero=>simp [run]at hr
  | succ n =>
   simp only[run]at hr;split at hr
   ·rename_i A7 hs
    exact ⟨n,c,A7,j4,hs,hr,hq⟩
   ·cases hr
 ·rintro ⟨n,c,A7,j4,hs,hr,hq⟩
  exact ⟨n+1,c,j4,by simp [run,hs,hr],hq⟩
theorem yO:AO L [] k st Q↔AK L k st Q:=by
 constructor
 ·rintro ⟨n,c,A7,j4,hs,hr,hq⟩
  simp only[CZ,Option.some.injEq]at hs;exact ⟨n,c,j4,hs ▸ hr,hq⟩
 ·rintro ⟨n,c,j4,hr,hq⟩
  exact ⟨n,c,st,j4,rfl,hr,hq⟩
theorem yR {o:AI} {l:List AI} {A7:St} (h : ∀ C,CO C o st=some A7):AO L (o::l) k st Q↔AO L l k A7 Q:=by
 constructor
 ·rintro ⟨n,c,BJ,j4,hs,hr,hq⟩
  simp only[CZ,h]at hs;exact ⟨n,c,BJ,j4,hs,hr,hq⟩
 ·rintro ⟨n,c,BJ,j4,hs,hr,hq⟩
  exact ⟨n,c,BJ,j4,by simpa only[CZ,h] using hs,hr,hq⟩
theorem yP {d:Option Nat} {op:DT} {g:Option (Nat × Bool)} {a8:List Nat} {l:List AI} (h:EW st g=some false):AO L (⟨d,op,g,a8⟩::l) k st Q↔AO L l k (st.dst d (.e6 [])) Q :=
 yR λ C=>by simp [CO,h]
theorem SL (c:Nat):(CJ L c).num=L.num:=rfl
theorem yQ {d:Option Nat} {op:DT} {g:Option (Nat × Bool)} {a8:List Nat} {l:List AI} {E:B9} (h:EW st g=some true) (he : ∀ c,c8 (CJ L c) a8 st.ev st.own op=some E):AO L (⟨d,op,g,a8⟩::l) k st Q↔AO L l k (st.app d E) Q:=by
 have h : ∀ c,CO (CJ L c) ⟨d,op,g,a8⟩ st=some (st.app d E):=λ c=>by simp [CO,h,he]
 constructor
 ·rintro ⟨n,c,BJ,j4,hs,hr,hq⟩
  simp only[CZ,h]at hs;exact ⟨n,c,BJ,j4,hs,hr,hq⟩
 ·rintro ⟨n,c,BJ,j4,hs,hr,hq⟩
  exact ⟨n,c,BJ,j4,by simpa only[CZ,h] using hs,hr,hq⟩
theorem yG {d:Option Nat} {f:Nat} {xs:List AP} {g:Option (Nat × Bool)} {a8:List Nat} {l:List AI} {vs:List AV} {r:AV} (h:EW st g=some true) (hv:(xs.map st.ev).mapM (CW (st.own.l6 a8) true)=some vs) (hr:Ev L f vs r) :
  AO L (⟨d,.call f xs,g,a8⟩::l) k st Q↔AO L l k (st.dst d r) Q:=by
 have g8 : ∀ c r',F4 L c f vs=some r'->CO (CJ L c) ⟨d,.call f xs,g,a8⟩ st=some (st.dst d r'):=λ c r' hc=>by
  have q6:(CJ L c).pure f vs=some r':=hc;simp [CO,h,c8,hv,q6,St.app]
 constructor
 ·rintro ⟨n,c,BJ,j4,hs,fe,hq⟩
  simp only[CZ]at hs;cases hI:CO (CJ L c) ⟨d,.call f xs,g,a8⟩ st with
  | none=>simp [hI]at hs
  | some A7 =>
   simp only[hI]at hs;cases hp:F4 L c f vs with
   | none =>
    have q6:(CJ L c).pure f vs=none:=hp;simp [CO,h,c8,hv,q6]at hI
   | some r' =>
    obtain rfl:r'=r:=Ev.An ⟨c,hp⟩ hr;rw[g8 c r' hp]at hI;obtain rfl:=Option.some.inj hI;exact ⟨n,c,BJ,j4,hs,fe,hq⟩
 ·rintro ⟨n,c,BJ,j4,hs,fe,hq⟩
  obtain ⟨c',q6⟩:=hr;have l1:=EN (L:=L) (Nat.le_max_left c c');have l2:=EN (L:=L) (Nat.le_max_right c c');refine ⟨n,max c c',BJ,j4,?_,IL l1 (Nat.le_refl n) fe,hq⟩;simp only[CZ];rw[g8 (max c c') r (l2.1 f vs r q6)];exact NV l1 hs
theorem yJ {d:Option Nat} {f:Nat} {x:AP} {xs:List AP} {g:Option (Nat × Bool)} {a8:List Nat} {l:List AI} {vs:List AV} {r:AV} (h:EW st g=some true) (hx:st.ev x = .fn true f (L.num f) []) (hv:(xs.map st.ev).mapM (CW st.own true)=some vs) (hr:Ev L f vs r) :
  AO L (⟨d,.m4 x xs,g,a8⟩::l) k st Q↔AO L l k (st.dst d r) Q:=by
 have g8 : ∀ c r',F4 L c f vs=some r'->CO (CJ L c) ⟨d,.m4 x xs,g,a8⟩ st=some (st.dst d r'):=λ c r' hc=>by
  have q6:(CJ L c).pure f vs=some r':=hc;simp [CO,h,c8,hx,SL,hv,q6,St.app]
 constructor
 ·rintro ⟨n,c,BJ,j4,hs,fe,hq⟩
  simp only[CZ]at hs;cases hI:CO (CJ L c) ⟨d,.m4 x xs,g,a8⟩ st with
  | none=>simp [hI]at hs
  | some A7 =>
   simp only[hI]at hs;cases hp:F4 L c f vs with
   | none =>
    have q6:(CJ L c).pure f vs=none:=hp;simp [CO,h,c8,hx,SL,hv,q6]at hI
   | some r' =>
    obtain rfl:r'=r:=Ev.An ⟨c,hp⟩ hr;rw[g8 c r' hp]at hI;obtain rfl:=Option.some.inj hI;exact ⟨n,c,BJ,j4,hs,fe,hq⟩
 ·rintro ⟨n,c,BJ,j4,hs,fe,hq⟩
  obtain ⟨c',q6⟩:=hr;have l1:=EN (L:=L) (Nat.le_max_left c c');have l2:=EN (L:=L) (Nat.le_max_right c c');refine ⟨n,max c c',BJ,j4,?_,IL l1 (Nat.le_refl n) fe,hq⟩;simp only[CZ];rw[g8 (max c c') r (l2.1 f vs r q6)];exact NV l1 hs
theorem yH {d:Option Nat} {f:Nat} {w:AV} {cs:List AV} {x:AP} {xs:List AP} {g:Option (Nat × Bool)} {a8:List Nat} {l:List AI} {vs:List AV} {r:AV} (h:EW st g=some true) (hx:st.ev x = .fn true f (L.num f) (w::cs)) (hv:(AV.agg (w::cs)::xs.map st.ev).mapM (CW st.own true)=some vs) (hr:Ev L f vs r) :
  AO L (⟨d,.m4 x xs,g,a8⟩::l) k st Q↔AO L l k (st.dst d r) Q:=by
 have g8 : ∀ c r',F4 L c f vs=some r'->CO (CJ L c) ⟨d,.m4 x xs,g,a8⟩ st=some (st.dst d r'):=λ c r' hc=>by
  have q6:(CJ L c).pure f vs=some r':=hc;simp [CO,h,c8,hx,SL,hv,q6,St.app]
 constructor
 ·rintro ⟨n,c,BJ,j4,hs,fe,hq⟩
  simp only[CZ]at hs;cases hI:CO (CJ L c) ⟨d,.m4 x xs,g,a8⟩ st with
  | none=>simp [hI]at hs
  | some A7 =>
   simp only[hI]at hs;cases hp:F4 L c f vs with
   | none =>
    have q6:(CJ L c).pure f vs=none:=hp;simp [CO,h,c8,hx,SL,hv,q6]at hI
   | some r' =>
    obtain rfl:r'=r:=Ev.An ⟨c,hp⟩ hr;rw[g8 c r' hp]at hI;obtain rfl:=Option.some.inj hI;exact ⟨n,c,BJ,j4,hs,fe,hq⟩
 ·rintro ⟨n,c,BJ,j4,hs,fe,hq⟩
  obtain ⟨c',q6⟩:=hr;have l1:=EN (L:=L) (Nat.le_max_left c c');have l2:=EN (L:=L) (Nat.le_max_right c c');refine ⟨n,max c c',BJ,j4,?_,IL l1 (Nat.le_refl n) fe,hq⟩;simp only[CZ];rw[g8 (max c c') r (l2.1 f vs r q6)];exact NV l1 hs
theorem yK {d:Option Nat} {f:Nat} {xs:List AP} {g:Option (Nat × Bool)} {a8:List Nat} {l:List AI} {r:AV} (h:EW st g=some true) (hq:(xs.map st.ev).all dq=true) (hr:Ev L f ((xs.map st.ev).map wu) r) (jy:IV r\/QL r) :
  AO L (⟨d,.j5 f xs,g,a8⟩::l) k st Q↔AO L l k (st.dst d (LC r)) Q:=by
 have g8 : ∀ c,F4 L c f ((xs.map st.ev).map wu)=some r->CO (CJ L c) ⟨d,.j5 f xs,g,a8⟩ st=some (st.dst d (LC r)):=λ c hc=>by
  have q6:(CJ L c).pure f ((xs.map st.ev).map wu)=some r:=hc;simp only[CO,h,c8];rw[if_pos hq,q6];simp only[if_pos jy,Option.map_some,St.app]
 constructor
 ·rintro ⟨n,c,BJ,j4,hs,fe,zu⟩
  simp only[CZ]at hs;cases hp:F4 L c f ((xs.map st.ev).map wu) with
  | none =>
   have q6:(CJ L c).pure f ((xs.map st.ev).map wu)=none:=hp;simp only[CO,h,c8]at hs;rw[if_pos hq,q6]at hs;simp at hs
  | some r' =>
   obtain rfl:r'=r:=Ev.An ⟨c,hp⟩ hr;rw[g8 c hp]at hs;exact ⟨n,c,BJ,j4,hs,fe,zu⟩
 ·rintro ⟨n,c,BJ,j4,hs,fe,zu⟩
  obtain ⟨c',q6⟩:=hr;have l1:=EN (L:=L) (Nat.le_max_left c c');have l2:=EN (L:=L) (Nat.le_max_right c c');refine ⟨n,max c c',BJ,j4,?_,IL l1 (Nat.le_refl n) fe,zu⟩;simp only[CZ];rw[g8 (max c c') (l2.1 f _ r q6)];exact NV l1 hs
theorem yL {d:Option Nat} {s f:Nat} {xs:List AP} {g:Option (Nat × Bool)} {a8:List Nat} {l:List AI} {vs:List AV} {z:Nat} {es:List (List AV)} (h:EW st g=some true) (hv:(xs.map st.ev).mapM (OH (st.own.l6 a8) true)=some vs) (hr:jG L f vs z es)
  (ha:AO L l k (st.app d (.new s ⟨z,es⟩ (λ t => .row s t z 0 es.length))) Q):AO L (⟨d,.s8 s f xs,g,a8⟩::l) k st Q:=by
 obtain ⟨n,c,BJ,j4,hs,fe,hq⟩:=ha;obtain ⟨c',q6⟩:=hr;have l1:=EN (L:=L) (Nat.le_max_left c c');have l2:=EN (L:=L) (Nat.le_max_right c c');have jc:OT ((CJ L (max c c')).df f vs AH.emp)=some (z,es):=kG (l2.2.1 f vs AH.emp) q6;refine ⟨n,max c c',BJ,j4,?_,IL l1 (Nat.le_refl n) fe,hq⟩;simp only[CZ];have:CO (CJ L (max c c')) ⟨d,.s8 s f xs,g,a8⟩ st=some (st.app d (.new s ⟨z,es⟩ (λ t => .row s t z 0 es.length))):=by
  simp only[CO,h,c8,hv,jc,Option.map_some]
 rw[this];exact NV l1 hs
def jH (L:Lib) (s f:Nat) (vs:List AV) (q:CB) (r:AV) (q':CB):Prop := ∃ n,∀ o:AH,o s=q->C4 L n f vs o=some (r,o.put s q')
theorem yN {d:Option Nat} {s f:Nat} {xs:List AP} {g:Option (Nat × Bool)} {a8:List Nat} {l:List AI} {r:AV} {q':CB} (h:EW st g=some true) (hr:jH L s f (xs.map st.ev) (st.own s) r q')
  (ha:AO L l k (st.app d (.wv s q' r)) Q):AO L (⟨d,.x7 s f xs,g,a8⟩::l) k st Q:=by
 obtain ⟨n,c,BJ,j4,hs,fe,hq⟩:=ha;obtain ⟨c',q6⟩:=hr;have l1:=EN (L:=L) (Nat.le_max_left c c');have l2:=EN (L:=L) (Nat.le_max_right c c');have jc:XD (CJ L (max c c')) f (xs.map st.ev) s (st.own s)=some (r,q'):=XF.2 λ o ho=>l2.2.1 f _ o _ (q6 o ho)
 refine ⟨n,max c c',BJ,j4,?_,IL l1 (Nat.le_refl n) fe,hq⟩;simp only[CZ];have:CO (CJ L (max c c')) ⟨d,.x7 s f xs,g,a8⟩ st=some (st.app d (.wv s q' r)):=by
  simp only[CO,h,c8,jc,Option.map_some]
 rw[this];exact NV l1 hs
theorem yF {d:Option Nat} {f s:Nat} {xs:List AP} {g:Option (Nat × Bool)} {l:List AI} {r:AV} {o':AH} (h:EW st g=some true) (h0:o' s=⟨0,λ_=>none⟩) (hr : ∃ n,∀ o:AH,(∀ q,q≠s->o q=st.own q)->C4 L n f (xs.map st.ev) o=some (r,o'.put s (o s)))
  (ha:AO L l k { (st.dst d r) with own:=o'.put s (st.own s) } Q):AO L (⟨d,.c9 f xs,g,[s]⟩::l) k st Q:=by
 obtain ⟨n,c,BJ,j4,hs,fe,hq⟩:=ha;obtain ⟨c',q6⟩:=hr;have l1:=EN (L:=L) (Nat.le_max_left c c');have l2:=EN (L:=L) (Nat.le_max_right c c');have jc:N3 (CJ L (max c c')) f (xs.map st.ev) s st.own=some (r,o'):=XB h0 λ o ho=>l2.2.1 f _ o _ (q6 o ho)
 refine ⟨n,max c c',BJ,j4,?_,IL l1 (Nat.le_refl n) fe,hq⟩;simp only[CZ];have:CO (CJ L (max c c')) ⟨d,.c9 f xs,g,[s]⟩ st=some { (st.dst d r) with own:=o'.put s (st.own s) }:=by
  simp only[CO,h,c8,jc,Option.map_some,St.app]
 rw[this];exact NV l1 hs
theorem yI {d:Option Nat} {f:Nat} {xs:List AP} {g:Option (Nat × Bool)} {a8:List Nat} {l:List AI} {r:AV} {o':AH} (hb : ∀ s,a8≠[s]) (h:EW st g=some true) (hr:GO L f (xs.map st.ev) st.own r o') :
  AO L (⟨d,.c9 f xs,g,a8⟩::l) k st Q↔AO L l k { (st.dst d r) with own:=o' } Q:=by
 have g8 : ∀ c r' o1,C4 L c f (xs.map st.ev) st.own=some (r',o1)->CO (CJ L c) ⟨d,.c9 f xs,g,a8⟩ st=some { (st.dst d r') with own:=o1 }:=λ c r' o1 hc=>by
  have q6:(CJ L c).df f (xs.map st.ev) st.own=some (r',o1):=hc;have he:c8 (CJ L c) a8 st.ev st.own (.c9 f xs)=some (.ct r' o1):=by
   match a8,hb with
   | [],_=>simp only[c8];rw[q6];rfl
   | [s],hb=>exact absurd rfl (hb s)
   | s::s'::q,_=>simp only[c8];rw[q6];rfl
  simp [CO,h,he,St.app]
 constructor
 ·rintro ⟨n,c,BJ,j4,hs,fe,hq⟩
  simp only[CZ]at hs;cases hI:CO (CJ L c) ⟨d,.c9 f xs,g,a8⟩ st with
  | none=>simp [hI]at hs
  | some A7 =>
   simp only[hI]at hs;cases hp:C4 L c f (xs.map st.ev) st.own with
   | none =>
    have q6:(CJ L c).df f (xs.map st.ev) st.own=none:=hp;have he:c8 (CJ L c) a8 st.ev st.own (.c9 f xs)=none:=by
     match a8,hb with
     | [],_=>simp only[c8];rw[q6];rfl
     | [s],hb=>exact absurd rfl (hb s)
     | s::s'::q,_=>simp only[c8];rw[q6];rfl
    simp [CO,h,he]at hI
   | some x =>
    obtain ⟨r',o1⟩:=x;obtain ⟨rfl,rfl⟩:=GO.An ⟨c,hp⟩ hr;rw[g8 c r' o1 hp]at hI;obtain rfl:=Option.some.inj hI;exact ⟨n,c,BJ,j4,hs,fe,hq⟩
 ·rintro ⟨n,c,BJ,j4,hs,fe,hq⟩
  obtain ⟨c',q6⟩:=hr;have l1:=EN (L:=L) (Nat.le_max_left c c');have l2:=EN (L:=L) (Nat.le_max_right c c');refine ⟨n,max c c',BJ,j4,?_,IL l1 (Nat.le_refl n) fe,hq⟩;simp only[CZ];rw[g8 (max c c') r o' (l2.2.1 f _ _ _ q6)];exact NV l1 hs
theorem yM {d:Option Nat} {f:Nat} {cs:List AV} {x:AP} {xs:List AP} {g:Option (Nat × Bool)} {a8:List Nat} {l:List AI} {r:AV} {o':AH} (h:EW st g=some true) (hx:st.ev x = .fn false f (L.num f) cs) (hr:GO L f (xs.map st.ev++cs) st.own r o') :
  AO L (⟨d,.m4 x xs,g,a8⟩::l) k st Q↔AO L l k { (st.dst d r) with own:=o' } Q:=by
 have g8 : ∀ c r' o1,C4 L c f (xs.map st.ev++cs) st.own=some (r',o1)->CO (CJ L c) ⟨d,.m4 x xs,g,a8⟩ st=some { (st.dst d r') with own:=o1 }:=λ c r' o1 hc=>by
  have q6:(CJ L c).df f (xs.map st.ev++cs) st.own=some (r',o1):=hc;simp [CO,h,c8,hx,SL,q6,St.app]
 constructor
 ·rintro ⟨n,c,BJ,j4,hs,fe,hq⟩
  simp only[CZ]at hs;cases hI:CO (CJ L c) ⟨d,.m4 x xs,g,a8⟩ st with
  | none=>simp [hI]at hs
  | some A7 =>
   simp only[hI]at hs;cases hp:C4 L c f (xs.map st.ev++cs) st.own with
   | none =>
    have q6:(CJ L c).df f (xs.map st.ev++cs) st.own=none:=hp;simp [CO,h,c8,hx,SL,q6]at hI
   | some x =>
    obtain ⟨r',o1⟩:=x;obtain ⟨rfl,rfl⟩:=GO.An ⟨c,hp⟩ hr;rw[g8 c r' o1 hp]at hI;obtain rfl:=Option.some.inj hI;exact ⟨n,c,BJ,j4,hs,fe,hq⟩
 ·rintro ⟨n,c,BJ,j4,hs,fe,hq⟩
  obtain ⟨c',q6⟩:=hr;have l1:=EN (L:=L) (Nat.le_max_left c c');have l2:=EN (L:=L) (Nat.le_max_right c c');refine ⟨n,max c c',BJ,j4,?_,IL l1 (Nat.le_refl n) fe,hq⟩;simp only[CZ];rw[g8 (max c c') r o' (l2.2.1 f _ _ _ q6)];exact NV l1 hs
theorem xY {Q':St->Prop} (h:AK L k st Q) (hq : ∀ s,Q s->Q' s):AK L k st Q':=by
 obtain ⟨n,c,j4,hr,hh⟩:=h;exact ⟨n,c,j4,hr,hq _ hh⟩
theorem GO.intro {f:Nat} {fn:AFn} {vs:List AV} {o:AH} {r:AV} {o':AH} (hL:L f=some fn) (hp:vs.length=fn.ah) (h:AK L [.code fn.body] ⟨CN 0 vs,o⟩ (λ st=>(fn.res.mapM (EX st)).map G9=some r/\st.own=o')):GO L f vs o r o':=by
 obtain ⟨n,c,j4,hr,h1,h2⟩:=h;refine ⟨max n c+1,?_⟩;rw[Q5];simp only[hL,hp,if_true];rw[IL (EN (L:=L) (Nat.le_max_right n c)) (Nat.le_max_left n c) hr];cases hm:fn.res.mapM (EX j4) with
 | none=>rw[hm]at h1;cases h1
 | some rs =>
  rw[hm]at h1;simp only[Option.map_some,Option.some.injEq]at h1;simp [hm,h1,h2]
theorem FJ.intro {f:Nat} {fn:AFn} {vs:List AV} {r:AV} (hL:L f=some fn) (hp:vs.length=fn.ah) (h:AK L [.code fn.body] ⟨CN 0 vs,AH.emp⟩ (λ st=>((fn.res.mapM (EX st)).map G9).bind (QF st.own false)=some r/\A2 r)):FJ L f vs r:=by
 obtain ⟨n,c,j4,hr,h1,h2⟩:=h;cases hm:(fn.res.mapM (EX j4)).map G9 with
 | none=>rw[hm]at h1;cases h1
 | some r0 =>
  rw[hm]at h1;simp only[Option.bind_some]at h1;obtain ⟨q,hq⟩:=GO.intro (o:=AH.emp) (r:=r0) (o':=j4.own) hL hp ⟨n,c,j4,hr,hm,rfl⟩;refine ⟨q,?_⟩;unfold HZ;simp [hq,h1,h2]
theorem FJ.ev {f:Nat} {fn:AFn} {vs:List AV} {r:AV} (hL:L f=some fn) (h:FJ L f vs r) (hs:fn.qb=false:=by rfl):Ev L f vs r:=by
 obtain ⟨n,h⟩:=h;have hs:L.qb f=false:=by simp only[Lib.qb,hL,hs]
 exact ⟨n,by unfold F4 J8;rw[hs];exact h⟩
theorem FJ.cons {f:Nat} {q:Bool} {e:List AV} {es:List (List AV)} {vs:List AV} {r:AV} (h:FJ L f (.sl q (e::es)::vs) r):Ev L f (.sl q (e::es)::vs) r:=by
 obtain ⟨n,h⟩:=h;refine ⟨n,?_⟩;unfold F4 J8;split
 ·rename_i heq;simp at heq
 ·exact h
theorem FJ.nil {f:Nat} {fn:AFn} {q:Bool} {vs:List AV} {r:AV} (hL:L f=some fn) (h1:FJ L f (.bj (.bool true)::vs) r) (h2:FJ L f (.bj (.bool false)::vs) r) (hs:fn.qb=true:=by rfl):Ev L f (.sl q []::vs) r:=by
 obtain ⟨n,h1⟩:=h1;obtain ⟨n',h2⟩:=h2;have hs:L.qb f=true:=by simp only[Lib.qb,hL,hs]
 have k1:=VP (λ vs r h=>(EN (L:=L) (Nat.le_max_left n n')).2.1 f vs AH.emp r h) h1;have k2:=VP (λ vs r h=>(EN (L:=L) (Nat.le_max_right n n')).2.1 f vs AH.emp r h) h2;refine ⟨max n n',?_⟩;unfold F4 J8;rw[hs];simp only;have k1':HZ (λ vs=>C4 L (max n n') f vs AH.emp) (.bj (.bool true)::vs)=some r:=k1;have k2':HZ (λ vs=>C4 L (max n n') f vs AH.emp) (.bj (.bool false)::vs)=some r:=k2;rw[k1',k2'];simp
theorem Ev.intro {f:Nat} {fn:AFn} {vs:List AV} {r:AV} (hL:L f=some fn) (hp:vs.length=fn.ah) (h:AK L [.code fn.body] ⟨CN 0 vs,AH.emp⟩ (λ st=>((fn.res.mapM (EX st)).map G9).bind (QF st.own false)=some r/\A2 r)) (hs:fn.qb=false:=by rfl):Ev L f vs r :=
 (FJ.intro hL hp h).ev hL hs
end
end Go.b8

namespace Go.b8
section
variable {L:Lib} {k:List It} {tm:Tm} {own:AH} {Q:St->Prop} {l:List AI} {a8:List Nat} {d:Nat}
theorem V9 (i:Nat) (v:AV) (r:Tm) (j:Nat):e5 ((i,v)::r) j=if j=i then v else e5 r j:=rfl
theorem Ahx (j:Nat):e5 [] j = .any:=rfl
theorem Ahu (i:Nat) (v:AV) (r:Tm) (l:List Nat):v8 ((i,v)::r) l=if l.contains i then v8 r l else (i,v)::v8 r l:=rfl
theorem Ahv (l:List Nat):v8 [] l=[]:=rfl
theorem AeO (i:Nat) (v:AV) (r:List AV):CN i (v::r)=(i,v)::CN (i+1) r:=rfl
end
end Go.b8

namespace Go.b8
section
variable {L:Lib} {k:List It} {tm:Tm} {own:AH} {st:St} {Q:St->Prop} {l:List AI} {a8:List Nat} {d:Nat} {dst:Option Nat}
section
variable {x y:AP} {kd:IntKind} {a b:Int}
end
def T8 (fn:AFn) (r:AV) (st:St):Prop:=((fn.res.mapM (EX st)).map G9).bind (QF st.own false)=some r/\A2 r
theorem Ev.fwd {f:Nat} {fn:AFn} {vs:List AV} {r:AV} (hL:L f=some fn) (hp:vs.length=fn.ah) (h:AK L [.code fn.body] ⟨CN 0 vs,AH.emp⟩ (T8 fn r)) (hs:fn.qb=false:=by rfl):Ev L f vs r:=Ev.intro hL hp h hs
theorem FJ.fwd {f:Nat} {fn:AFn} {vs:List AV} {r:AV} (hL:L f=some fn) (hp:vs.length=fn.ah) (h:AK L [.code fn.body] ⟨CN 0 vs,AH.emp⟩ (T8 fn r)):FJ L f vs r:=FJ.intro hL hp h
end
attribute [irreducible] T8
end Go.b8

namespace Go.b8
def pw (n:Int):Int:=2^n.toNat
theorem Agf (n:Int):1<=pw n:=by
 have:0<pw n:=Int.pow_pos (by decide)
 omega
theorem Ag0 {k2:IntKind} {a n:Int} (h:0<=n/\n<=63):C9 .shr .i64 a k2 n=some (.int .i64 (a/pw n)):=by
 have h2:=Agf n;have e:(2:Int)^(min n.toNat IntKind.i64.bits)=pw n:=by
  have:min n.toNat IntKind.i64.bits=n.toNat:=by simp only[IntKind.bits];omega
  rw[this];rfl
 simp only[C9];rw[if_neg (by omega),e,Int.fdiv_eq_ediv_of_nonneg _ (by omega)]
theorem wK {a m:Int} (hm:0<m):a.tmod m=if 0<=a\/a%m=0 then a%m else a%m-m:=by
 have h:=Int.tmod_eq_emod (a:=a) (b:=m);rw[h];have hd:m ∣ a↔a%m=0:=Int.dvd_iff_emod_eq_zero;by_cases h0:0<=a\/a%m=0
 ·rw[if_pos h0,if_pos (by rcases h0 with h0|h0;exact Or.inl h0;exact Or.inr (hd.2 h0))];omega
 ·rw[if_neg h0,if_neg (λ h=>h0 (h.imp id hd.1))]
  have:(m.natAbs:Int)=m:=by omega
  omega
theorem wH {a m:Int} (hm:0<m):a.tdiv m=if 0<=a\/a%m=0 then a/m else a/m+1:=by
 have h:=Int.tdiv_eq_ediv (a:=a) (b:=m);rw[h];have hd:m ∣ a↔a%m=0:=Int.dvd_iff_emod_eq_zero;by_cases h0:0<=a\/a%m=0
 ·rw[if_pos h0,if_pos (by rcases h0 with h0|h0;exact Or.inl h0;exact Or.inr (hd.2 h0))];omega
 ·rw[if_neg h0,if_neg (λ h=>h0 (h.imp id hd.1)),Int.sign_eq_one_of_pos hm]
theorem Xo {a m:Int} (hm:1<=m) (h : -9223372036854775808<=a/\a<=9223372036854775807) : -9223372036854775808<=a/m/\a/m<=9223372036854775807:=by
 constructor
 ·rw[Int.le_ediv_iff_mul_le (by omega)]
  have:=Int.mul_le_mul_of_nonpos_left (a := -9223372036854775808) (b:=m) (c:=1) (by omega) hm
  omega
 ·have:a/m<9223372036854775808:=by
   rw[Int.ediv_lt_iff_lt_mul (by omega)];have:=Int.mul_le_mul_of_nonneg_left (c:=9223372036854775808) (a:=1) (b:=m) hm (by omega)
   omega
  omega
section
variable {L:Lib} {k:List It} {tm:Tm} {own:AH} {Q:St->Prop} {l:List AI} {a8:List Nat} {d:Nat} {x y:AP} {a b n p:Int} {k2:IntKind}
end
end Go.b8

namespace Go.b8
theorem TR (ts:List Nat) (j:Nat) : ∀ tm:Tm,e5 (v8 tm ts) j=if ts.contains j then .any else e5 tm j
 | []=>by simp [Ahv,Ahx]
 | (i,u)::r=>by
  rw[Ahu];by_cases h:ts.contains i=true
  ·rw[if_pos h,TR ts j r,V9]
   by_cases h2:j=i
   ·subst h2;rw[if_pos h,if_pos h]
   ·rw[if_neg h2]
  ·rw[if_neg h,V9,V9,TR ts j r]
   by_cases h2:j=i
   ·subst h2;rw[if_pos rfl,if_pos rfl,if_neg h]
   ·rw[if_neg h2,if_neg h2]
def I7 (j:Nat):List Nat->Bool
 | []=>false
 | i::r=>bif Nat.beq j i then true else I7 j r
abbrev GD (n:Int):List AV:=[.int .i64 n]
section
variable {L:Lib} {k:List It} {tm:Tm} {own:AH} {Q:St->Prop} {l:List AI} {a8:List Nat} {d:Nat} {x i:AP} {kd:IntKind} {a:Int} {q:Bool} {α:Type} {es:List α} {enc:α->List AV} {z:Nat}
end
end Go.b8

namespace Go.b8
inductive A8 where
 | bx (cs:List AV)
 | rw (z:Nat) (es:List (List AV))
 | bs (z:Nat) (es:List (List AV))
 | mx (rows:List (Option (Nat × List (List AV))))
 | hx (i:Nat) (v:AV) (rows:List (Option (Nat × List (List AV))))
 | vw (w:List Nat) (rows:List (Option (Nat × List (List AV))))
abbrev Mem:=List (Nat × Nat × A8)
def b7:Mem->Nat->Option (Nat × A8)
 | [],_=>none
 | (k,s,c)::r,j=>bif Nat.beq j k then some (s,c) else b7 r j
def a7 (M:Mem) (k t:Nat):Option A8:=match b7 M k with
 | none=>none
 | some (_,c)=>match t with
  | 0=>some c
  | i+1=>match c with
   | .mx rows=>match rows[i]? with
    | some (some (z,es))=>some (.rw z es)
    | _=>none
   | .hx _ _ rows=>match rows[i]? with
    | some (some (z,es))=>some (.rw z es)
    | _=>none
   | .vw _ rows=>match rows[i]? with
    | some (some (z,es))=>some (.rw z es)
    | _=>none
   | _=>none
def m9 (j:Nat):Mem->Mem
 | []=>[]
 | (k,s,c)::r=>bif Nat.beq j k then m9 j r else (k,s,c)::m9 j r
def tg:Tm->Nat->AV
 | [],_ => .any
 | (i,v)::r,j=>bif Nat.beq j i then v else tg r j
def bit (m i:Nat):Bool:=Nat.beq (Nat.land (Nat.shiftRight m i) 1) 1
def mask:Nat->List Nat->Nat
 | m,[]=>m
 | m,t::ts=>mask (Nat.lor m (Nat.shiftLeft 1 t)) ts
def wc (m:Nat):Tm->Tm
 | []=>[]
 | (i,v)::r=>bif bit m i then wc m r else (i,v)::wc (Nat.lor m (Nat.shiftLeft 1 i)) r
def fN (n:Nat) (K:Nat->Prop):Prop:=match n with
 | 0=>K 0
 | k+1=>K (k+1)
def tz:AV->Bool
 | .int _ _=>true | .bool _=>true | .bj _=>true | .sl _ _=>true | .nil=>true
 | _=>false
def D4:List AV->Bool
 | []=>true
 | v::r=>bif tz v then D4 r else false
def UP:List (List AV)->Bool
 | []=>true
 | v::r=>bif D4 v then UP r else false
def NL (s:Nat):AV->Bool
 | .row k _ _ _ _=>Nat.beq k s | .ptr k _ _ _=>Nat.beq k s
 | _=>false
def H5 (s:Nat):List AV->Bool
 | []=>false
 | v::r=>bif NL s v then true else H5 s r
def QB (s:Nat):List (List AV)->Bool
 | []=>false
 | v::r=>bif H5 s v then true else QB s r
def PD (s:Nat):AV->Bool
 | .agg cs=>H5 s cs
 | .fn _ _ _ cs=>H5 s cs
 | v=>NL s v
def TH (s:Nat):List AV->Bool
 | []=>false
 | v::r=>bif PD s v then true else TH s r
def NM (s:Nat):AV->Bool
 | .e6 vs=>TH s vs
 | v=>PD s v
def HH (s:Nat):Tm->Bool
 | []=>false
 | (_,v)::r=>bif NM s v then true else HH s r
def HG (s:Nat):A8->Bool
 | .bx cs=>H5 s cs
 | .rw _ _=>false
 | .bs _ es=>QB s es
 | .mx _=>false
 | .hx _ _ _=>false
 | .vw _ _=>false
def GK (s:Nat):Mem->Bool
 | []=>false
 | (k,_,c)::r=>bif Nat.beq s k then true else bif HG s c then true else GK s r
def OX (s:Nat):AV->Bool
 | .row k t _ _ _=>bif Nat.beq k s then (match t with|0=>false|_+1=>true) else false
 | .ptr k t _ _=>bif Nat.beq k s then (match t with|0=>false|_+1=>true) else false
 | _=>false
def N6 (s:Nat):List AV->Bool
 | []=>false
 | v::r=>bif OX s v then true else N6 s r
def QX (s:Nat):AV->Bool
 | .agg cs=>N6 s cs
 | .fn _ _ _ cs=>N6 s cs
 | v=>OX s v
def SJ (s:Nat):List AV->Bool
 | []=>false
 | v::r=>bif QX s v then true else SJ s r
def PT (s:Nat):AV->Bool
 | .e6 vs=>SJ s vs
 | v=>QX s v
def IY (s:Nat):Tm->Bool
 | []=>false
 | (_,v)::r=>bif PT s v then true else IY s r
def SK (s:Nat):List (List AV)->Bool
 | []=>false
 | v::r=>bif N6 s v then true else SK s r
def N5 (s:Nat):A8->Bool
 | .bx cs=>N6 s cs
 | .bs _ es=>SK s es
 | _=>false
def HQ (s:Nat):Mem->Bool
 | []=>false
 | (_,_,c)::r=>bif N5 s c then true else HQ s r
def used (k:Nat) (tm:Tm) (M:Mem):Bool:=bif GK k M then true else HH k tm
def ZC (tm:Tm) (M:Mem):List Nat->(Nat->Prop)->Prop
 | [],_=>False
 | k::r,K=>bif used k tm M then ZC tm M r K else K k
def GA (s:Nat) (tm:Tm) (M:Mem) (K:Nat->Prop):Prop:=ZC tm M [s,s+1000000,s+2000000,s+3000000] K
def fL:List AV->(List AV->Prop)->Prop
 | [],K=>K []
 | v::r,K=>fL r λ r'=>K (v::r')
def fV (v:AV) (K:AV->Prop):Prop:=match v with
 | .int k n=>K (.int k n) | .bool b=>K (.bool b) | .sl l es=>K (.sl l es) | .row s t z o n=>K (.row s t z o n)
 | .nil=>K .nil | .ptr s t i j=>K (.ptr s t i j) | .o5 cs=>K (.o5 cs) | .agg cs=>fL cs λ cs=>K (.agg cs)
 | .fn p f g cs=>fL cs λ cs=>K (.fn p f g cs)
 | .e6 vs=>fL vs λ vs=>K (.e6 vs) | .bj c=>K (.bj c) | .any=>False
def fC (v:AV) (K:List AV->Prop):Prop:=match v with
 | .agg cs=>fL cs K
 | .fn _ _ _ _=>False
 | .e6 _=>False
 | .any=>False
 | v=>fV v λ v=>K [v]
def fB (b:Bool) (K:Bool->Prop):Prop:=match b with
 | true=>K true
 | false=>K false
def fT:Tm->(Tm->Prop)->Prop
 | [],K=>K []
 | (i,v)::r,K=>fT r λ r'=>K ((i,v)::r')
def fM:Mem->(Mem->Prop)->Prop
 | [],K=>K []
 | (k,s,c)::r,K=>fM r λ r'=>K ((k,s,c)::r')
def fF (v:AV) (K:AV->Prop):Prop:=match v with
 | .int k n=>K (.int k n) | .bool b=>K (.bool b) | .sl l es=>K (.sl l es) | .row s t z o n=>K (.row s t z o n)
 | .nil=>K .nil | .ptr s t i j=>K (.ptr s t i j) | .bj c=>K (.bj c)|_=>False
def f2 (v:AV) (K:AV->Prop):Prop:=match v with
 | .int k n=>K (.int k n) | .bool b=>K (.bool b) | .sl l es=>K (.sl l es) | .row s t z o n=>K (.row s t z o n)
 | .nil=>K .nil | .ptr s t i j=>K (.ptr s t i j) | .bj c=>K (.bj c) | .agg cs=>fL cs λ cs=>K (.agg cs) | .fn p f g cs=>fL cs λ cs=>K (.fn p f g cs)|_=>False
def qw (agg:Bool) (ds:List AV) (K:AV->Prop):Prop:=match agg with
 | true=>K (.agg ds)
 | false=>match ds with
  | [c]=>fF c K
  | _=>False
def AF (p q A B:Prop):Prop:=(p->A)/\(q->B)
def AQ (p A:Prop):Prop:=p/\A
def AC (op:BinOp) (k:IntKind) (a:Int) (k':IntKind) (b:Int) (K:AV->Prop):Prop := ∃ v,C9 op k a k' b=some v/\K v
def CI (op:UnOp) (k:IntKind) (n:Int) (K:AV->Prop):Prop := ∃ v,QI op (.int k n)=some v/\K v
structure A1 (k:IntKind) (n:Int) (K:Int->Prop):Prop where h:K (k.wrap n)
def AW (es:List (List AV)) (a:Int) (z:Nat) (K:List AV->Prop):Prop:=0<=a /\ ∃ cs,es[a.toNat]? = some cs/\cs.length=z/\K cs
def A5 (es:List (List AV)) (i j n:Nat) (K:List AV->Prop):Prop := ∃ cs ds,es[i]? = some cs/\part cs j n=some ds/\K ds
def A9 (es:List (List AV)) (i j:Nat) (vs:List AV) (K:List (List AV)->Prop):Prop := ∃ cs,es[i]? = some cs/\j+vs.length<=cs.length/\K (es.set i (splice cs j vs))
def B4 (a b:Int) (bytes:Nat) (zero:List AV) (K:List (List AV)->Nat->Prop):Prop:=(0<=a/\a<=b/\b*bytes<=EK/\b<=9223372036854775807)/\K (List.replicate a.toNat zero) a.toNat
structure AR (es:List (List AV)) (K:Nat->Prop):Prop where h:K es.length
def B3 (es:List (List AV)) (len:Nat) (ys:List (List AV)) (z bytes:Nat) (K:List (List AV)->Nat->Prop):Prop :=
 len<=es.length/\(∀ e∈ys,e.length=z)/\(len+ys.length)*bytes<=EK/\len+ys.length<=9223372036854775807/\K (es.take len++ys) (len+ys.length)
def CE (ys:List (List AV)) (z bytes:Nat) (K:List (List AV)->Nat->Prop):Prop :=
 (∀ e∈ys,e.length=z)/\ys.length*bytes<=EK/\ys.length<=9223372036854775807/\K ys ys.length
def DE (es:List (List AV)) (off len:Nat) (ys:List (List AV)) (z:Nat) (K:List (List AV)->Nat->Prop):Prop :=
 off+len<=es.length/\(∀ e∈ys,e.length=z)/\K (es.take off++ys.take len++es.drop (off+min ys.length len)) (min ys.length len)
def BX (es:List (List AV)) (off len:Nat) (K:List (List AV)->Prop):Prop:=off+len<=es.length/\K ((es.drop off).take len)
def FG:List AV->Bool
 | []=>true
 | v::r=>match v with
  | .int _ _=>FG r | .bool _=>FG r | .bj _=>FG r | .sl _ _=>FG r
  | _=>false
def nl:AV->AV
 | .nil => .sl false []
 | v=>v
def LY:List AV->Bool
 | []=>true
 | v::r=>match v with
  | .int _ _=>LY r | .bool _=>LY r | .bj _=>LY r | .sl _ _=>LY r | .nil=>LY r
  | _=>false
def A3 (es:List (List AV)) (off len:Nat) (K:List (List AV)->Prop):Prop:=off+len<=es.length/\(∀ e∈es,LY e=true)/\K (((es.drop off).take len).map λ e=>e.map nl)
def BV (rows:List (Option (Nat × List (List AV)))) (i:Nat) (K:Option (Nat × List (List AV))->Prop):Prop := ∃ r,rows[i]? = some r/\K r
def BN (rows:List (Option (Nat × List (List AV)))) (i:Nat) (K:Nat->List (List AV)->Prop):Prop := ∃ z es,rows[i]? = some (some (z,es))/\K z es
def CS (rows:List (Option (Nat × List (List AV)))) (i z:Nat) (es:List (List AV)) (K:List (Option (Nat × List (List AV)))->Prop):Prop:=i<rows.length/\K (rows.set i (some (z,es)))
def CR (rows:List (Option (Nat × List (List AV)))) (i z:Nat) (es es':List (List AV)) (K:List (Option (Nat × List (List AV)))->Prop):Prop:=es'.length=es.length/\K (rows.set i (some (z,es')))
def C1 (a b:Int) (bytes:Nat) (K:List (Option (Nat × List (List AV)))->Nat->Prop):Prop:=(0<=a/\a<=b/\b*bytes<=EK/\b<=9223372036854775807)/\K (List.replicate a.toNat none) a.toNat
def CY (rows:List (Option (Nat × List (List AV)))) (len:Nat) (r:Option (Nat × List (List AV))) (bytes:Nat) (K:List (Option (Nat × List (List AV)))->Nat->Prop):Prop :=
 len=rows.length/\(len+1)*bytes<=EK/\len+1<=9223372036854775807/\K (rows++[r]) (len+1)
def QD (q:Bool):List (Option (Nat × List (List AV)))->List (List AV)
 | []=>[]
 | none::r=>[.sl false []]::QD q r
 | some (_,es)::r=>[.sl q es]::QD q r
def CT (q:Bool) (rows:List (Option (Nat × List (List AV)))) (off len:Nat) (K:List (List AV)->Prop):Prop :=
 off=0/\len=rows.length/\(∀ z es,some (z,es)∈rows -> ∀ e∈es,FG e=true)/\K (QD q rows)
def BW (lo hi:Option Int) (len:Nat) (K:Nat->Nat->Prop):Prop :=
 ∃ a h:Nat,(match lo with|none=>a=0|some x=>0<=x/\a=x.toNat)/\(match hi with|none=>h=len|some x=>0<=x/\x<=len/\h=x.toNat)/\a<=h/\K a h
def CD (z:Nat) (es:List (List AV)) (lo hi:Option Int) (K:List (List AV)->Prop):Prop:=(∀ e∈es,e.length=z)/\BW lo hi es.length λ a h=>K ((es.take h).drop a)
def AB (L:Lib) (f:Nat) (vs:List AV) (K:AV->Prop):Prop := ∃ r,Ev L f vs r/\K r
def yS (n:Nat) (cs ds:List AV) (K:Bool->Prop):Prop := ∃ a b,dS cs=some a/\dS ds=some b/\a.length=n/\b.length=n/\K (decide (a=b))
def YH:List AV->Bool
 | []=>true
 | .int _ _::r=>YH r
 | _=>false
def DD (L:Lib) (f:Nat) (vs:List AV) (K:Nat->List (List AV)->Nat->Prop):Prop := ∃ z es n,jG L f vs z es/\n=es.length/\K z es n
abbrev E0:=Nat->Nat->Nat × Nat
def A7 (σ:E0):AV->AV
 | .row k t z o n => .row (σ k t).1 (σ k t).2 z o n
 | .ptr k t i j => .ptr (σ k t).1 (σ k t).2 i j
 | v=>v
def BJ (σ:E0):AV->AV
 | .agg cs => .agg (cs.map (A7 σ))
 | .fn p f g cs => .fn p f g (cs.map (A7 σ))
 | v=>A7 σ v
def BG (σ:E0):AV->AV
 | .e6 vs => .e6 (vs.map (BJ σ))
 | v=>BJ σ v
def B6 (σ:E0) (k:Nat):Nat->List (Option (Nat × List (List AV)))->List (List AV)
 | _,[]=>[]
 | i,none::r=>[.nil]::B6 σ k (i+1) r
 | i,some (z,es)::r=>[.row (σ k (i+1)).1 (σ k (i+1)).2 z 0 es.length]::B6 σ k (i+1) r
def A8.c7 (σ:E0) (k:Nat):A8->DR
 | .bx cs=>⟨cs.length,[cs.map (A7 σ)]⟩
 | .rw z es=>⟨z,es⟩
 | .bs z es=>⟨z,es.map λ cs=>cs.map (A7 σ)⟩
 | .mx rows=>⟨1,B6 σ k 0 rows⟩
 | .hx i v rows=>⟨1,(B6 σ k 0 rows).set i [v]⟩
 | .vw w rows=>⟨1,w.map λ t=>((B6 σ k 0 rows)[t]?).getD []⟩
def A8.km:A8->Bool
 | .bx _=>false
 | _=>true
def EQ (s:Nat):Bool:=Nat.blt s 900000
structure GC (σ:E0) (own:AH) (M:Mem):Prop where
 site : ∀ k s c,b7 M k=some (s,c)->(σ k 0).1=s
 c7 : ∀ k t c,a7 M k t=some c->(own (σ k t).1).c7 (σ k t).2=some (c.c7 σ k)
 old : ∀ k t c,a7 M k t=some c->(σ k t).2<(own (σ k t).1).e8
 inj : ∀ k t k' t' c c',a7 M k t=some c->a7 M k' t'=some c'->σ k t=σ k' t'->k=k'/\t=t'
 low : ∀ k t c,a7 M k t=some c->c.km=true->EQ (σ k t).1=true
structure RX (σ:E0) (tm:Tm) (M:Mem) (st:St):Prop where
 tm : ∀ j,tg tm j = .any\/e5 st.tm j=BG σ (tg tm j)
 sat:GC σ st.own M
def SQ (Q:Tm->Mem->Prop) (st:St):Prop := ∃ σ tm M,RX σ tm M st/\Q tm M
def AA (L:Lib) (k:List It) (tm:Tm) (M:Mem) (Q:Tm->Mem->Prop):Prop := ∀ σ st,RX σ tm M st->AK L k st (SQ Q)
def iX (L:Lib) (l:List AI) (k:List It) (tm:Tm) (M:Mem) (Q:Tm->Mem->Prop):Prop := ∀ σ st,RX σ tm M st->AO L l k st (SQ Q)
def A4 (L:Lib) (f:Nat) (vs:List AV) (tm:Tm) (M:Mem) (K:AV->Mem->Prop):Prop :=
 ∀ σ own,GC σ own M -> ∃ r k6 σ' M',GO L f (vs.map (BG σ)) own (BG σ' r) k6/\GC σ' k6 M'/\(∀ j,BG σ' (tg tm j)=BG σ (tg tm j))/\K r M'
def TD (s:Nat):Mem->Bool
 | []=>true
 | (_,s',_)::r=>bif Nat.beq s' s then false else TD s r
def zB (L:Lib) (s f:Nat):Prop :=
 ∀ n vs (o0 o2:AH) r o',(∀ t,o0.get s t=none)->(∀ q,q≠s->o2 q=o0 q)->C4 L n f vs o0=some (r,o')->C4 L n f vs o2=some (r,o'.put s (o2 s))
def yW (L:Lib) (s f:Nat) (vs:List AV) (tm:Tm) (M:Mem) (K:AV->Mem->Prop):Prop :=
 zB L s f/\(EQ s=false/\TD s M=true)/\A4 L f vs tm M λ r M'=>TD s M'=true/\K r M'
def OK (L:Lib) (s f key:Nat) (rest:List AV) (M:Mem) (K:AV->Mem->Prop):Prop :=
 ∃ (cells fm:List AV) (kd:IntKind) (n:Int),b7 M key=some (s,.bx cells)/\D4 cells=true/\D4 fm=true/\(∀ (t:Nat) (q:CB),q.c7 t=some ⟨cells.length,[cells]⟩->jH L s f (.ptr s t 0 0::rest) q (.int kd n) (q.m7 t (some ⟨fm.length,[fm]⟩)))/\K (.int kd n) ((key,s,.bx fm)::M)
def cv:AV->AV
 | .agg cs=>bif D4 cs then .agg cs else .any
 | .e6 [] => .e6 []
 | .o5 _ => .any
 | .fn p f g [] => .fn p f g []
 | v=>bif tz v then v else .any
def ex (tm:Tm):AP->AV
 | .t n=>tg tm n
 | .c v=>cv v
def kq (k k':IntKind):Bool:=decide (k=k')
def aQ (op:BinOp) (k:IntKind) (a:Int) (k':IntKind) (b:Int) (K:AV->Prop):Prop:=match op with
 | .lss=>bif kq k k' then AF (a<b) (b<=a) (K (.bool true)) (K (.bool false)) else False
 | .leq=>bif kq k k' then AF (a<=b) (b<a) (K (.bool true)) (K (.bool false)) else False
 | .gtr=>bif kq k k' then AF (b<a) (a<=b) (K (.bool true)) (K (.bool false)) else False
 | .geq=>bif kq k k' then AF (b<=a) (a<b) (K (.bool true)) (K (.bool false)) else False
 | .eql=>bif kq k k' then AF (a=b) (a≠b) (K (.bool true)) (K (.bool false)) else False
 | .neq=>bif kq k k' then AF (a≠b) (a=b) (K (.bool true)) (K (.bool false)) else False
 | op=>AC op k a k' b K
noncomputable def RI (mx:Bool) (k:IntKind) (K:AV->Prop) (a:Int) (l:List AV):Prop :=
 List.rec (motive:=λ_=>Int->Prop) (λ a=>K (.int k a)) (λ v _ ih a=>match v with
  | .int _ b=>bif mx then AF (a<b) (b<=a) (ih b) (ih a) else AF (b<a) (a<=b) (ih b) (ih a)
  | _=>False) l a
def yh:List AV->Nat->AV
 | [],_ => .any
 | v::_,0=>v
 | _::r,n+1=>yh r n
def P9 (s:Nat):List Nat->Bool
 | []=>true
 | a8 => !(I7 s a8)
def RK:List Nat->Bool
 | []=>true
 | s::r=>bif EQ s then false else RK r
def gK (M:Mem) (k t:Nat) (K:Nat->List (List AV)->Prop):Prop:=match b7 M k with
 | some (_,c)=>match t with
  | 0=>match c with
   | .rw z es=>K z es
   | _=>False
  | i+1=>match c with
   | .mx rows=>BN rows i K
   | _=>False
 | none=>False
def X2 (M:Mem) (v:AV) (K:List (List AV)->Prop):Prop:=match v with
 | .sl _ es=>K es
 | .nil=>K []
 | .bj (.bool _)=>K []
 | .row key t z off len=>gK M key t λ z' es=>bif Nat.beq z z' then BX es off len K else False
 | _=>False
def RY (q:Bool) (M:Mem) (a8:List Nat) (v:AV) (K:AV->Prop):Prop:=match v with
 | .int k n=>K (.int k n)
 | .bool b=>K (.bool b)
 | .sl l es=>K (.sl l es)
 | .bj c=>K (.bj c)
 | .nil=>K (.sl false [])
 | .row key t z off len=>match b7 M key with
  | some (s,.rw z' es)=>match t with
   | 0=>bif Nat.beq z z' then bif P9 s a8 then A3 es off len λ es=>K (.sl q es) else False else False
   | _+1=>False
  | some (_,.mx rows)=>match t with
   | 0=>False
   | i+1=>match a8 with
    | []=>BN rows i λ z' es=>bif Nat.beq z z' then A3 es off len λ es=>K (.sl q es) else False
    | b::r=>bif RK (b::r) then BN rows i λ z' es=>bif Nat.beq z z' then A3 es off len λ es=>K (.sl q es) else False else False
  | _=>False
 | _=>False
noncomputable def ZS (q:Bool) (M:Mem) (a8:List Nat) (l:List AV):(List AV->Prop)->Prop :=
 List.rec (motive:=λ_=>(List AV->Prop)->Prop) (λ K=>K []) (λ v _ ih K=>RY q M a8 v λ v'=>ih λ r'=>K (v'::r')) l
noncomputable def gV (q:Bool) (M:Mem) (a8:List Nat) (l:List (List AV)):(List (List AV)->Prop)->Prop :=
 List.rec (motive:=λ_=>(List (List AV)->Prop)->Prop) (λ K=>K []) (λ v _ ih K=>ZS q M a8 v λ v'=>ih λ r'=>K (v'::r')) l
noncomputable def VY (q:Bool) (M:Mem) (a8:List Nat) (v:AV) (K:AV->Prop):Prop:=match v with
 | .row key 0 z off len=>match b7 M key with
  | some (s,.bs z' es)=>bif Nat.beq z z' then bif P9 s a8 then bif Nat.beq off 0 then AQ (len=es.length) (gV q M a8 es λ es=>K (.sl q es)) else False else False else False
  | some (_,.mx rows)=>match a8 with
   | []=>bif Nat.beq z 1 then CT q rows off len λ es=>K (.sl q es) else False
   | _::_=>False
  | _=>RY q M a8 (.row key 0 z off len) K
 | v=>RY q M a8 v K
noncomputable def gW (q:Bool) (M:Mem) (a8:List Nat) (l:List AV):(List AV->Prop)->Prop :=
 List.rec (motive:=λ_=>(List AV->Prop)->Prop) (λ K=>K []) (λ v _ ih K=>VY q M a8 v λ v'=>ih λ r'=>K (v'::r')) l
noncomputable def PI (q:Bool) (M:Mem) (a8:List Nat) (v:AV) (K:AV->Prop):Prop:=match v with
 | .agg cs=>gW q M a8 cs λ cs=>K (.agg cs)
 | v=>VY q M a8 v K
noncomputable def VZ (tm:Tm) (M:Mem) (a8:List Nat) (l:List AP):(List AV->Prop)->Prop :=
 List.rec (motive:=λ_=>(List AV->Prop)->Prop) (λ K=>K []) (λ x _ ih K=>PI true M a8 (ex tm x) λ v=>ih λ vs=>K (v::vs)) l
noncomputable def ZT (M:Mem) (a8:List Nat) (v:AV) (K:AV->Prop):Prop:=match v with
 | .nil=>K .nil
 | v=>PI true M a8 v K
noncomputable def gX (tm:Tm) (M:Mem) (a8:List Nat) (l:List AP):(List AV->Prop)->Prop :=
 List.rec (motive:=λ_=>(List AV->Prop)->Prop) (λ K=>K []) (λ x _ ih K=>ZT M a8 (ex tm x) λ v=>ih λ vs=>K (v::vs)) l
noncomputable def Q8 (tm:Tm) (l:List AP):(List AV->Prop)->Prop :=
 List.rec (motive:=λ_=>(List AV->Prop)->Prop) (λ K=>K []) (λ x _ ih K=>fV (ex tm x) λ v=>ih λ vs=>K (v::vs)) l
def YZ (tm:Tm) (o:Option AP) (K:Option Int->Prop):Prop:=match o with
 | none=>K none
 | some x=>match ex tm x with
  | .int _ n=>K (some n)
  | _=>False
def eF (es:List (List AV)) (K:Nat->Prop):Prop:=match es with
 | []=>K 0
 | [_]=>K 1
 | [_,_]=>K 2
 | [_,_,_]=>K 3
 | [_,_,_,_]=>K 4
 | es=>K es.length
noncomputable def aT (tm:Tm) (z:Nat) (l:List AP):(List (List AV)->Prop)->Prop :=
 List.rec (motive:=λ_=>(List (List AV)->Prop)->Prop) (λ K=>K []) (λ x _ ih K=>fC (ex tm x) λ cs=>bif Nat.beq cs.length z then ih λ es=>K (cs::es) else False) l
noncomputable def dC (tm:Tm) (ps:List (Nat × Nat × AP)):List AV->(List AV->Prop)->Prop :=
 List.rec (motive:=λ_=>List AV->(List AV->Prop)->Prop) (λ cells K=>K cells) (λ p _ ih cells K=>fC (ex tm p.2.2) λ vs=>bif Nat.beq vs.length p.2.1 then bif Nat.ble (p.1+p.2.1) cells.length then fL (splice cells p.1 vs) λ cells=>ih cells K else False else False) ps
def P1 (tm:Tm):List AP->List AV
 | []=>[]
 | x::r=>ex tm x::P1 tm r
def QT (tb:List Nat) (n:Int) (K:Nat->Prop):Prop:=0<=n /\ ∃ v,tb[n.toNat]? = some v/\K v
noncomputable def fE (tm:Tm) (l:List AP):(List AV->Prop)->Prop :=
 List.rec (motive:=λ_=>(List AV->Prop)->Prop) (λ K=>K []) (λ x _ ih K=>fF (ex tm x) λ v=>ih λ cs=>K (v::cs)) l
def fK:AV->Bool
 | .agg _=>false | .fn _ _ _ _=>false | .e6 _=>false | .any=>false
 | _=>true
def VI:List AV->Bool
 | []=>true
 | v::r=>bif fK v then VI r else false
def QU (M:Mem) (v:AV):Option (Nat × Option (Nat × Nat × Nat)):=match v with
 | .row ky 0 1 0 1=>match b7 M ky with
  | some (_,.bs 1 [[.row k2 0 z 0 n]])=>some (ky,some (k2,z,n))
  | some (_,.rw 1 [[.nil]])=>some (ky,none)
  | _=>none
 | _=>none
def iD (tm:Tm) (M:Mem) (K:AV->Mem->Prop) (n:Nat) (x v:AP):Prop:=match ex tm x with
 | .ptr key t i j=>fC (ex tm v) λ vs=>bif Nat.beq vs.length n then (match b7 M key with
  | some (s,c)=>match t with
   | 0=>match c with
    | .bx cs=>bif Nat.beq i 0 then bif Nat.ble (j+vs.length) cs.length then fL (splice cs j vs) λ dk=>K (.e6 []) ((key,s,.bx dk)::M) else False else False
    | .rw z es=>bif D4 vs then A9 es i j vs λ es'=>K (.e6 []) ((key,s,.rw z es')::M) else False
    | .bs _ _=>False
    | .mx rows=>match vs with
     | [.row u9 0 z 0 m]=>bif Nat.beq key u9 then False else bif IY key tm then False else bif HQ key M then False else bif Nat.beq j 0 then (match b7 M u9 with
      | some (_,.rw z' es)=>bif Nat.beq z z' then fM (m9 u9 M) λ M'=>AQ (m=es.length) (CS rows i z es λ n8=>K (.e6 []) ((key,s,.mx n8)::M')) else False
      | _=>False) else False
     | [.row u9 (t2+1) z 0 m]=>bif Nat.beq key u9 then bif Nat.beq j 0 then BN rows t2 λ z' es=>bif Nat.beq z z' then AQ (m=es.length/\i<rows.length) (K (.e6 []) ((key,s,.vw ((List.range rows.length).set i t2) rows)::M)) else False else False else False
     | _=>False
    | .hx i0 _ rows=>match vs with
     | [.row u9 0 z 0 m]=>bif Nat.beq key u9 then False else bif IY key tm then False else bif HQ key M then False else bif Nat.beq j 0 then (match b7 M u9 with
      | some (_,.rw z' es)=>bif Nat.beq z z' then fM (m9 u9 M) λ M'=>AQ (i=i0/\m=es.length) (CS rows i z es λ n8=>K (.e6 []) ((key,s,.mx n8)::M')) else False
      | _=>False) else False
     | _=>False
    | .vw w rows=>match vs with
     | [.row u9 (t2+1) z 0 m]=>bif Nat.beq key u9 then bif Nat.beq j 0 then BN rows t2 λ z' es=>bif Nat.beq z z' then AQ (m=es.length/\i<w.length /\ ∀ t∈w,t<rows.length) (K (.e6 []) ((key,s,.vw (w.set i t2) rows)::M)) else False else False else False
     | _=>False
   | i'+1=>match c with
    | .mx rows=>bif D4 vs then BN rows i' λ z es=>A9 es i j vs λ es'=>CR rows i' z es es' λ n8=>K (.e6 []) ((key,s,.mx n8)::M) else False
    | _=>False
  | none=>False) else False
 | _=>False
def BL (r:AV) (K:AV->Prop):Prop:=(IV r\/QL r)/\K (LC r)
noncomputable def XE (L:Lib) (tm:Tm) (M:Mem) (a8:List Nat) (K:AV->Mem->Prop):DT->Prop
 | .n0 x=>fV (ex tm x) λ v=>K v M
 | .v9 s z=>bif EQ s then GA s tm M λ k=>K (.row k 0 z 0 0) ((k,s,.rw z [])::M) else False
 | .pick c a b=>match ex tm c with
  | .bool true=>fV (ex tm a) λ v=>K v M
  | .bool false=>fV (ex tm b) λ v=>K v M
  | _=>False
 | .bin op x y=>match ex tm x,ex tm y with
  | .int k a,.int k' b=>aQ op k a k' b λ v=>K v M
  | _,_=>False
 | .beq ne x y=>match ex tm x,ex tm y with
  | .bool a,.bool b=>fB (bif ne then !(a == b) else a == b) λ c=>K (.bool c) M
  | _,_=>False
 | .un op x=>match ex tm x with
  | .int k n=>CI op k n λ v=>K v M
  | .bool b=>match op with
   | .not=>fB (!b) λ c=>K (.bool c) M
   | _=>False
  | _=>False
 | .conv k x=>match ex tm x with
  | .int _ n=>A1 k n λ v=>K (.int k v) M
  | _=>False
 | .box s x=>fC (ex tm x) λ cs=>GA s tm M λ k=>K (.ptr k 0 0 0) ((k,s,.bx cs)::M)
 | .alloc s zero=>bif D4 zero then (GA s tm M λ k=>K (.ptr k 0 0 0) ((k,s,.bx zero)::M)) else False
 | .build zero parts=>bif D4 zero then dC tm parts zero λ cs=>K (.agg cs) M else False
 | .b9 s z parts=>bif EQ s then aT tm z parts λ es=>eF es λ n=>GA s tm M λ k=>bif UP es then K (.row k 0 z 0 n) ((k,s,.rw z es)::M) else K (.row k 0 z 0 n) ((k,s,.bs z es)::M) else False
 | .u6 x off=>match ex tm x with
  | .ptr key t i j=>K (.ptr key t i (j+off)) M
  | .o5 cs=>fL (cs.drop off) λ cs=>K (.o5 cs) M
  | _=>False
 | .oz x off n agg=>match ex tm x with
  | .agg cs=>match part cs off n with
   | some ds=>fL ds λ ds=>qw agg ds λ v=>K v M
   | none=>False
  | _=>False
 | .q7 arr z x i=>match ex tm i with
  | .int _ n=>match arr,ex tm x with
   | some len,.ptr key t i' j=>AQ (0<=n/\n<(len:Int)) (K (.ptr key t i' (j+n.toNat*z)) M)
   | some len,.o5 cs=>AQ (0<=n/\n<(len:Int)) (fL (cs.drop (n.toNat*z)) λ cs=>K (.o5 cs) M)
   | none,.row key t z' off len=>bif Nat.beq z' z then AQ (0<=n/\n<(len:Int)) (K (.ptr key t (off+n.toNat) 0) M) else False
   | none,.sl _ es=>AW es n z λ cs=>K (.o5 cs) M
   | _,_=>False
  | _=>False
 | .ld agg n x=>match ex tm x with
  | .ptr key t i j=>match b7 M key with
   | some (s,c)=>match t with
    | 0=>bif P9 s a8 then (match c with
     | .bx cs=>bif Nat.beq i 0 then (match part cs j n with
      | some ds=>fL ds λ ds=>qw agg ds λ v=>K v M
      | none=>False) else False
     | .rw _ es=>A5 es i j n λ ds=>fL ds λ ds=>bif D4 ds then qw agg ds λ v=>K v M else False
     | .bs _ es=>(match es[i]? with
      | some cs=>(match part cs j n with
       | some ds=>fL ds λ ds=>qw agg ds λ v=>K v M
       | none=>False)
      | none=>False)
     | .mx rows=>bif Nat.beq j 0 then bif Nat.beq n 1 then BV rows i λ r=>match r with
      | some (z,es)=>qw agg [.row key (i+1) z 0 es.length] λ v=>K v M
      | none=>qw agg [.nil] λ v=>K v M else False else False
     | .hx _ _ _=>False
     | .vw _ _=>False) else False
    | i'+1=>match c,a8 with
     | .mx rows,[]=>BN rows i' λ_ es=>A5 es i j n λ ds=>fL ds λ ds=>bif D4 ds then qw agg ds λ v=>K v M else False
     | .mx rows,b::r=>bif RK (b::r) then BN rows i' λ_ es=>A5 es i j n λ ds=>fL ds λ ds=>bif D4 ds then qw agg ds λ v=>K v M else False else False
     | _,_=>False
   | none=>False
  | .o5 cs=>match part cs 0 n with
   | some ds=>fL ds λ ds=>bif D4 ds then qw agg ds λ v=>K v M else False
   | none=>False
  | _=>False
 | .st n x v=>iD tm M K n x v
 | .mq s n x v=>match ex tm x with
  | .ptr key 0 _ _=>(match b7 M key with
   | some (s',_)=>bif Nat.beq s' s then iD tm M K n x v else False
   | none=>False)
  | _=>False
 | .j5 f xs=>Q8 tm xs λ vs=>bif vs.all dq then AB L f (vs.map wu) λ r=>BL r λ r=>K r M else False
 | .mk s z bytes zero l c=>match ex tm l,ex tm c with
  | .int _ a,.int _ b=>bif Nat.beq zero.length z then bif D4 zero then match zero with
   | [.nil]=>bif EQ s then C1 a b bytes λ rows n=>GA s tm M λ k=>K (.row k 0 z 0 n) ((k,s,.mx rows)::M) else False
   | zero=>bif EQ s then (B4 a b bytes zero λ es n=>GA s tm M λ k=>K (.row k 0 z 0 n) ((k,s,.rw z es)::M)) else False else False else False
  | _,_=>False
 | .fk z x lo hi=>YZ tm lo λ lo=>YZ tm hi λ hi=>match ex tm x with
  | .sl l es=>CD z es lo hi λ es=>K (.sl l es) M
  | .row key t z' off len=>bif Nat.beq z' z then BW lo hi len λ a h=>K (.row key t z (off+a) (h-a)) M else False
  | .nil=>(match lo,hi with
   | none,none=>K .nil M
   | some a,none=>AQ (a=0) (K .nil M)
   | none,some h=>AQ (h=0) (K .nil M)
   | some a,some h=>AQ (a=0/\h=0) (K .nil M))
  | _=>False
 | .ext x i=>match ex tm x with
  | .e6 vs=>f2 (yh vs i) λ v=>K v M
  | _=>False
 | .len x=>match ex tm x with
  | .sl _ es=>AR es λ n=>K (.int .i64 (n:Int)) M
  | .nil=>K (.int .i64 0) M
  | .row _ _ _ _ n=>K (.int .i64 (n:Int)) M
  | _=>False
 | .mm mx xs=>match P1 tm xs with
  | .int k a::r=>RI mx k (λ v=>K v M) a r
  | _=>False
 | .app s z bytes x y=>bif Nat.ble 800000 s then False else (
  match QU M (ex tm y) with
  | some (ky,some (k2,z2,n2))=>match ex tm x with
   | .row key 0 z' off len=>bif Nat.beq off 0 then bif Nat.beq z' 1 then bif Nat.beq z 1 then bif Nat.beq key k2 then False else bif Nat.beq key ky then False else bif Nat.beq k2 ky then False else (match b7 M k2 with
    | some (_,.rw z3 es)=>bif Nat.beq z2 z3 then (match b7 M key with
     | some (s',.mx rows)=>fM (m9 key (m9 k2 (m9 ky M))) λ M'=>AQ (n2=es.length) (CY rows len (some (z2,es)) bytes λ n8 n=>GA s tm M λ k=>K (.row k 0 z 0 n) ((k,s',.mx n8)::M'))
     | _=>False) else False
    | _=>False) else False else False else False
   | .nil=>bif EQ s then bif Nat.beq z 1 then (match b7 M k2 with
    | some (_,.rw z3 es)=>bif Nat.beq z2 z3 then fM (m9 k2 M) λ M'=>AQ (n2=es.length/\bytes<=140737488355328) (GA s tm M λ k=>K (.row k 0 z 0 1) ((k,s,.mx [some (z2,es)])::M')) else False
    | _=>False) else False else False
   | _=>False
  | some (ky,none)=>match ex tm x with
   | .row key 0 z' off len=>bif Nat.beq off 0 then bif Nat.beq z' 1 then bif Nat.beq z 1 then bif Nat.beq key ky then False else (match b7 M key with
     | some (s',.mx rows)=>fM (m9 key M) λ M'=>CY rows len none bytes λ n8 n=>GA s tm M λ k=>K (.row k 0 z 0 n) ((k,s',.mx n8)::M')
     | _=>False) else False else False else False
   | .nil=>bif EQ s then bif Nat.beq z 1 then AQ (bytes<=140737488355328) (GA s tm M λ k=>K (.row k 0 z 0 1) ((k,s,.mx [none])::M)) else False else False
   | _=>False
  | none=>X2 M (ex tm y) λ ys=>match ex tm x with
   | .row key 0 z' off len=>bif Nat.beq off 0 then bif Nat.beq z' z then (match b7 M key with
    | some (s',.rw mr es)=>bif Nat.beq mr z then fM (m9 key M) λ M'=>(B3 es len ys z bytes λ es' n=>GA s tm M λ k=>K (.row k 0 z 0 n) ((k,s',.rw z es')::M')) else False
    | _=>False) else False else False
   | .row key (i+1) z' off len=>bif Nat.beq off 0 then bif Nat.beq z' z then (match b7 M key with
    | some (sk,.mx rows)=>fM (m9 key M) λ M'=>BN rows i λ mr es=>bif Nat.beq mr z then (B3 es len ys z bytes λ es' n => ∀ s' v,GA s tm M λ k=>K (.row k 0 z 0 n) ((k,s',.rw z es')::(key,sk,.hx i v (rows.set i none))::M')) else False
    | _=>False) else False else False
   | .nil=>bif EQ s then CE ys z bytes λ es n=>GA s tm M λ k=>K (.row k 0 z 0 n) ((k,s,.rw z es)::M) else False
   | _=>False)
 | .call f xs=>VZ tm M a8 xs λ vs=>AB L f vs λ r=>K r M
 | .c9 f xs=>match a8 with
  | [s]=>Q8 tm xs λ vs=>yW L s f vs tm M K
  | _=>Q8 tm xs λ vs=>A4 L f vs tm M K
 | .s8 s f xs=>bif EQ s then gX tm M a8 xs λ vs=>DD L f vs λ z es n=>GA s tm M λ k=>K (.row k 0 z 0 n) ((k,s,.rw z es)::M) else False
 | .ta ne x=>match ex tm x with
  | .nil=>fB (xor true ne) λ c=>K (.bool c) M
  | .bj (.bool b)=>fB (xor b ne) λ c=>K (.bool c) M
  | .sl _ es=>AQ (es≠[]) (fB (xor false ne) λ c=>K (.bool c) M)
  | .row _ _ _ _ n=>AQ (0<n) (fB (xor false ne) λ c=>K (.bool c) M)
  | _=>False
 | .bad=>False
 | .mn x=>match ex tm x with
  | .ptr key t i j=>K (.ptr key t i j) M
  | _=>False
 | .eg x=>match ex tm x with
  | .nil=>K (.int .i64 0) M
  | _=>False
 | .oa s z bytes x y=>match ex tm x,ex tm y with
  | .nil,.int _ n=>bif EQ s then AQ (0<n/\n*bytes<=EK/\n<=9223372036854775807) (GA s tm M λ k=>K (.row k 0 z 0 n.toNat) ((k,s,.rw z [])::M)) else False
  | _,_=>False
 | .x7 s f xs=>Q8 tm xs λ vs=>match vs with
  | .ptr key 0 0 0::rest=>bif YH rest then OK L s f key rest M K else False
  | _=>False
 | .gf tb x=>match ex tm x with
  | .int _ n=>QT tb n λ v=>K (.int .u8 v) M
  | _=>False
 | .pz p f xs=>fE tm xs λ cs=>K (.fn (p&&cs.isEmpty) f (L.num f) cs) M
 | .m4 x xs=>match ex tm x with
  | .fn true f g []=>AQ (g=L.num f) (VZ tm M [] xs λ vs=>AB L f vs λ r=>K r M)
  | .fn true f g (c::cs)=>AQ (g=L.num f) (PI true M [] (.agg (c::cs)) λ v=>VZ tm M [] xs λ vs=>AB L f (v::vs) λ r=>K r M)
  | .fn false f g cs=>bif VI cs then AQ (g=L.num f) (Q8 tm xs λ vs=>fL (vs++cs) λ vs=>A4 L f vs tm M K) else False
  | _=>False
def pt (d:Option Nat) (v:AV) (tm:Tm):Tm:=match d with
 | some d=>(d,v)::tm
 | none=>tm
def Dz (key:Nat):Tm->Tm
 | []=>[]
 | (j,v)::r=>bif PT key v then (j,.any)::Dz key r else (j,v)::Dz key r
def xk (v:AV) (tm:Tm) (K:Tm->Prop):Prop:=match v with
 | .row key (_+1) _ _ _=>fT (Dz key tm) K
 | _=>K tm
noncomputable def XI (L:Lib) (o:AI) (ih:(Tm->Mem->Prop)->Tm->Mem->Prop) (K:Tm->Mem->Prop) (tm:Tm) (M:Mem):Prop:=match o with
 | ⟨some d,.app s z b x y,none,a8⟩=>XE L tm M a8 (λ v M=>xk (ex tm x) tm λ tm=>ih K ((d,v)::tm) M) (.app s z b x y)
 | ⟨some d,op,none,a8⟩=>XE L tm M a8 (λ v M=>ih K ((d,v)::tm) M) op
 | ⟨none,op,none,a8⟩=>XE L tm M a8 (λ_ M=>ih K tm M) op
 | ⟨dst,op,some (g,w),a8⟩=>match tg tm g with
  | .bool b=>fB (b == w) λ c=>match c,dst with
   | true,some d=>XE L tm M a8 (λ v M=>ih K ((d,v)::tm) M) op
   | true,none=>XE L tm M a8 (λ_ M=>ih K tm M) op
   | false,some d=>ih K ((d,.e6 [])::tm) M
   | false,none=>ih K tm M
  | .e6 []=>match dst with
   | some d=>ih K ((d,.e6 [])::tm) M
   | none=>ih K tm M
  | _=>False
noncomputable def XO (L:Lib) (l:List AI):(Tm->Mem->Prop)->Tm->Mem->Prop :=
 List.rec (motive:=λ_=>(Tm->Mem->Prop)->Tm->Mem->Prop) (λ K tm M=>K tm M) (λ o _ ih K tm M=>XI L o ih K tm M) l
noncomputable def XS (L:Lib) (Q:Tm->Mem->Prop) (ih:List It->Tm->Mem->Prop) (k:List It) (tm:Tm) (M:Mem):Prop:=match k with
 | []=>Q tm M
 | it::k=>match it with
  | .c7 _=>ih k tm M
  | .jr ts ss=>fN (mask 0 ts) λ m=>fT (wc m tm) λ tm=>match ss with
   | []=>ih k tm M
   | _::_=>False
  | .lp c=>AA L (.lp c::k) tm M Q
  | .code c=>match c with
   | .skip=>ih k tm M
   | .ops l _=>XO L l (λ tm M=>ih k tm M) tm M
   | .dr c ts ss=>ih (.code c :: .jr ts ss::k) tm M
   | .scope c=>ih (.code c::k) tm M
   | .seq a b=>ih (.code a :: .code b::k) tm M
   | .cond x a b=>match ex tm x with
    | .bool b'=>fB b' λ c=>match c with
     | true=>ih (.code a::k) tm M
     | false=>ih (.code b::k) tm M
    | _=>False
   | .block id c=>ih (.code c :: .c7 id::k) tm M
   | .loop c=>AA L (.lp c::k) tm M Q
   | .exit id=>match DS id k with
    | some k'=>ih k' tm M
    | none=>False
   | .ret=>Q tm M
noncomputable def XK (L:Lib) (Q:Tm->Mem->Prop) (n:Nat):List It->Tm->Mem->Prop :=
 Nat.rec (motive:=λ_=>List It->Tm->Mem->Prop) (λ k tm M=>AA L k tm M Q) (λ_ ih k tm M=>XS L Q ih k tm M) n
def VS (tm:Tm) (M:Mem) (r:IR) (K:AV->Prop):Prop:=match r with
 | .tmp t=>f2 (tg tm t) K
 | .cell t agg n=>match tg tm t with
  | .ptr key 0 i j=>match b7 M key with
   | some (_,.bx cs)=>bif Nat.beq i 0 then (match part cs j n with
    | some ds=>fL ds λ ds=>qw agg ds K
    | none=>False) else False
   | _=>False
  | _=>False
noncomputable def ZG (tm:Tm) (M:Mem) (l:List IR):(List AV->Prop)->Prop :=
 List.rec (motive:=λ_=>(List AV->Prop)->Prop) (λ K=>K []) (λ x _ ih K=>VS tm M x λ v=>ih λ vs=>K (v::vs)) l
noncomputable def gU (q:Bool) (M:Mem) (l:List AV):(List AV->Prop)->Prop :=
 List.rec (motive:=λ_=>(List AV->Prop)->Prop) (λ K=>K []) (λ x _ ih K=>PI q M [] x λ v=>ih λ vs=>K (v::vs)) l
def Rl (vs:List AV) (K:AV->Prop):Prop:=match vs with
 | [v]=>K v
 | vs=>K (.e6 vs)
def AJ (a r:AV):Prop:=a=r/\A2 r
noncomputable def PQ (fn:AFn) (r:AV) (tm:Tm) (M:Mem):Prop:=ZG tm M fn.res λ vs=>gU false M vs λ vs=>Rl vs λ v=>AJ v r
end Go.b8
