/-
  Rules to run the abstract machine by rewriting.
-/
import Derived.Test.YtplhdlbnneoobaaGreatB4
import Derived.Test.YtplhdlbnneoobaaGreatB1
import Derived.IntWalk
set_option linter.unusedSimpArgs false
set_option linter.unusedVariables false
set_option linter.unnecessarySimpa false
namespace Go.c4
section
variable {L:Lib}
def Cl.le (C C':Cl):Prop:=(∀ f vs r,C.pure f vs=some r->C'.pure f vs=some r)/\(∀ f vs o r,C.dh f vs o=some r->C'.dh f vs o=some r)/\C.num=C'.num
theorem dS {x y:Option (AV × AH)} {r:Nat × List (List AV)} (h : ∀ q,x=some q->y=some q) (hr:MO x=some r):MO y=some r:=by
 cases x with
 | none=>simp [MO]at hr
 | some q=>rw[h q rfl];exact hr
theorem yC {C C':Cl} (h:C.le C') {b9:List Nat} {ρ:AM->AV} {own:AH} {op:DL} {E:BW} (he:c8 C b9 ρ own op=some E):c8 C' b9 ρ own op=some E:=by
 cases op with
 | call f xs =>
  simp only[c8]at he ⊢;split at he
  ·rename_i vs et
   simp only[Option.map_eq_some_iff]at he ⊢;obtain ⟨r,hr,rfl⟩:=he;exact ⟨r,h.1 f vs r hr,rfl⟩
  ·cases he
 | g6 f xs =>
  simp only[c8,Option.map_eq_some_iff]at he ⊢;obtain ⟨r,hr,rfl⟩:=he;exact ⟨r,h.2.1 f _ own r hr,rfl⟩
 | kf p f xs=>simp only[c8]at he ⊢;rw[<-h.2.2];exact he
 | y6 s f xs =>
  simp only[c8,Option.map_eq_some_iff]at he ⊢;obtain ⟨p,hp,rfl⟩:=he;exact ⟨p,UU.2 λ o ho=>h.2.1 f _ o _ (UU.1 hp o ho),rfl⟩
 | o6 s f xs =>
  simp only[c8]at he ⊢;split at he
  ·rename_i vs et
   simp only[Option.map_eq_some_iff]at he ⊢;obtain ⟨r,hr,rfl⟩:=he;exact ⟨r,dS (h.2.1 f vs AH.emp) hr,rfl⟩
  ·cases he
 | k9 f xs =>
  simp only[c8]at he ⊢;split at he
  ·rename_i hq
   rw[if_pos hq];split at he
   ·rename_i r hr
    rw[h.1 _ _ r hr];exact he
   ·cases he
  ·cases he
 | n9 x xs =>
  simp only[c8]at he ⊢;rw[<-h.2.2];split at he
  ·split at he
   ·rename_i hg
    rw[if_pos hg];split at he
    ·split at he
     ·rename_i vs et
      simp only[Option.map_eq_some_iff]at he ⊢;obtain ⟨r,hr,rfl⟩:=he;exact ⟨r,h.1 _ vs r hr,rfl⟩
     ·cases he
    ·simp only[Option.map_eq_some_iff]at he ⊢
     obtain ⟨r,hr,rfl⟩:=he;exact ⟨r,h.2.1 _ _ own r hr,rfl⟩
    ·cases he
   ·cases he
  ·cases he
 | _=>exact he
theorem Sl {C C':Cl} (h:C.le C') {o:AI} {st j7:St} (he:C3 C o st=some j7):C3 C' o st=some j7:=by
 unfold C3 at he ⊢;split at he
 ·simp only[Option.map_eq_some_iff]at he ⊢
  obtain ⟨E,h1,h2⟩:=he;exact ⟨E,yC h h1,h2⟩
 ·exact he
 ·exact he
theorem N4 {C C':Cl} (h:C.le C') : ∀ {l:List AI} {st j7:St},C6 C l st=some j7->C6 C' l st=some j7
 | [],st,j7,he=>he
 | o::r,st,j7,he=>by
  simp only[C6]at he ⊢;cases hs:C3 C o st with
  | none=>simp [hs]at he
  | some A7 =>
   rw[Sl h hs];simp only[hs]at he;exact N4 h he
theorem NZ {C C':Cl} (h:C.le C') : ∀ {n n':Nat} {k:List It} {st j7:St},n<=n'->run C n k st=some j7->run C' n' k st=some j7:=by
 intro n;induction n with
 | zero=>intro n' k st j7 _ hr;simp [run]at hr
 | succ n ih =>
  intro n' k st j7 hn hr;obtain ⟨q,rfl⟩ : ∃ q,n'=q+1:=⟨n'-1,by omega⟩;have hq:n<=q:=by omega
  cases k with
  | nil=>exact hr
  | cons it k =>
   cases it with
   | e8 id=>simp only[run]at hr ⊢;exact ih hq hr
   | iz ts ss=>simp only[run]at hr ⊢;exact ih hq hr
   | lp c=>simp only[run]at hr ⊢;exact ih hq hr
   | code c =>
    cases c with
    | skip=>simp only[run]at hr ⊢;exact ih hq hr
    | ops l d =>
     simp only[run]at hr ⊢;cases hs:C6 C l st with
     | none=>simp [hs]at hr
     | some A7 =>
      rw[N4 h hs];simp only[hs]at hr;exact ih hq hr
    | dr c ts ss=>simp only[run]at hr ⊢;exact ih hq hr
    | scope c=>simp only[run]at hr ⊢;exact ih hq hr
    | seq a b=>simp only[run]at hr ⊢;exact ih hq hr
    | cond x a b =>
     simp only[run]at hr ⊢;split at hr
     ·exact ih hq hr
     ·exact ih hq hr
     ·cases hr
    | block id c=>simp only[run]at hr ⊢;exact ih hq hr
    | loop c=>simp only[run]at hr ⊢;exact ih hq hr
    | exit id =>
     simp only[run]at hr ⊢;split at hr
     ·exact ih hq hr
     ·cases hr
    | ret=>exact hr
theorem TE {I I':List AV->Option (AV × AH)} (hI : ∀ vs r,I vs=some r->I' vs=some r) {vs:List AV} {r:AV} (h:HO I vs=some r):HO I' vs=some r:=by
 unfold HO at h ⊢;cases he:I vs with
 | none=>simp [he]at h
 | some x=>rw[hI vs _ he];simpa [he] using h
theorem Qv {b:Bool} {I I':List AV->Option (AV × AH)} (hI : ∀ vs r,I vs=some r->I' vs=some r) {vs:List AV} {r:AV} (h:JC b I vs=some r):JC b I' vs=some r:=by
 unfold JC at h ⊢;split at h
 ·split at h
  ·rename_i r1 r2 h1 h2
   rw[TE hI h1,TE hI h2];exact h
  ·cases h
 ·exact TE hI h
theorem iN : ∀ (n:Nat),(C8 L n).le (C8 L (n+1)):=by
 have dh : ∀ n,(∀ f vs o r,DD L n f vs o=some r->DD L (n+1) f vs o=some r) -> ∀ f vs r,G6 L n f vs=some r->G6 L (n+1) f vs=some r:=by
  intro n hI f vs r h;exact Qv (λ vs r h=>hI f vs _ r h) h
 intro n;induction n with
 | zero =>
  have : ∀ f vs o r,DD L 0 f vs o=some r->DD L 1 f vs o=some r:=λ f vs o r h=>by simp [DD]at h
  exact ⟨dh 0 this,this,rfl⟩
 | succ n ih =>
  have : ∀ f vs o r,DD L (n+1) f vs o=some r->DD L (n+2) f vs o=some r:=λ f vs o r h=>by
   rw[SK]at h ⊢;cases hL:L f with
   | none=>simp [hL]at h
   | some fn =>
    simp only[hL]at h ⊢;split at h
    ·rename_i hp
     rw[if_pos hp];cases hr:run (C8 L n) n [.code fn.body] ⟨CH 0 vs,o⟩ with
     | none=>simp [hr]at h
     | some st =>
      rw[NZ ih (Nat.le_succ n) hr];simpa [hr] using h
    ·cases h
  exact ⟨dh (n+1) this,this,rfl⟩
theorem FJ {n n':Nat} (h:n<=n'):(C8 L n).le (C8 L n'):=by
 induction h with
 | refl=>exact ⟨λ_ _ _ h=>h,λ_ _ _ _ h=>h,rfl⟩
 | step _ ih=>exact ⟨λ f vs r h=>(iN _).1 f vs r (ih.1 f vs r h),λ f vs o r h=>(iN _).2.1 f vs o r (ih.2.1 f vs o r h),rfl⟩
def Ev (L:Lib) (f:Nat) (vs:List AV) (r:AV):Prop := ∃ n,G6 L n f vs=some r
def E9 (L:Lib) (f:Nat) (vs:List AV) (r:AV):Prop := ∃ n,HO (λ vs=>DD L n f vs AH.emp) vs=some r
def FX (L:Lib) (f:Nat) (vs:List AV) (o:AH) (r:AV) (o':AH):Prop := ∃ n,DD L n f vs o=some (r,o')
def NA (L:Lib) (f:Nat) (vs:List AV) (z:Nat) (es:List (List AV)):Prop := ∃ n,MO (DD L n f vs AH.emp)=some (z,es)
theorem Ev.wh {f:Nat} {vs:List AV} {r r':AV} (h:Ev L f vs r) (h':Ev L f vs r'):r=r':=by
 obtain ⟨n,hn⟩:=h;obtain ⟨n',ln⟩:=h';have h1:=(FJ (L:=L) (Nat.le_max_left n n')).1 f vs r hn;have h2:=(FJ (L:=L) (Nat.le_max_right n n')).1 f vs r' ln;rw[h1]at h2;exact Option.some.inj h2
theorem FX.wh {f:Nat} {vs:List AV} {o:AH} {r r':AV} {o1 o2:AH} (h:FX L f vs o r o1) (h':FX L f vs o r' o2):r=r'/\o1=o2:=by
 obtain ⟨n,hn⟩:=h;obtain ⟨n',ln⟩:=h';have h1:=(FJ (L:=L) (Nat.le_max_left n n')).2.1 f vs o _ hn;have h2:=(FJ (L:=L) (Nat.le_max_right n n')).2.1 f vs o _ ln;rw[h1]at h2;simpa using h2
def AK (L:Lib) (k:List It) (st:St) (Q:St->Prop):Prop := ∃ n c j7,run (C8 L c) n k st=some j7/\Q j7
def AO (L:Lib) (l:List AI) (k:List It) (st:St) (Q:St->Prop):Prop := ∃ n c A7 j7,C6 (C8 L c) l st=some A7/\run (C8 L c) n k A7=some j7/\Q j7
variable {k:List It} {st:St} {Q:St->Prop}
theorem I0 {it:It} {k':List It} {A7:St} (h : ∀ (C:Cl) (n:Nat),run C (n+1) (it::k) st=run C n k' A7):AK L (it::k) st Q↔AK L k' A7 Q:=by
 constructor
 ·rintro ⟨n,c,j7,hr,hq⟩
  cases n with
  | zero=>simp [run]at hr
  | succ n=>exact ⟨n,c,j7,by rw[<-h];exact hr,hq⟩
 ·rintro ⟨n,c,j7,hr,hq⟩
  exact ⟨n+1,c,j7,by rw[h];exact hr,hq⟩
theorem pZ:AK L [] st Q↔Q st:=by
 constructor
 ·rintro ⟨n,c,j7,hr,hq⟩
  cases n with
  | zero=>simp [run]at hr
  | succ n=>simp only[run,Option.some.injEq]at hr;exact hr ▸ hq
 ·exact λ h=>⟨1,0,st,rfl,h⟩
theorem pR {id:Nat}:AK L (.e8 id::k) st Q↔AK L k st Q:=I0 λ_ _=>rfl
theorem pV {ts ss:List Nat}:AK L (.iz ts ss::k) st Q↔AK L k ⟨v7 st.tm ts,st.own.drop ss⟩ Q:=I0 λ_ _=>rfl
theorem cM {c:BC}:AK L (.lp c::k) st Q↔AK L (.code c :: .lp c::k) st Q:=I0 λ_ _=>rfl
theorem qE:AK L (.code .skip::k) st Q↔AK L k st Q:=I0 λ_ _=>rfl
theorem pU {c:BC} {ts ss:List Nat}:AK L (.code (.dr c ts ss)::k) st Q↔AK L (.code c :: .iz ts ss::k) st Q:=I0 λ_ _=>rfl
theorem qC {c:BC}:AK L (.code (.scope c)::k) st Q↔AK L (.code c::k) st Q:=I0 λ_ _=>rfl
theorem qD {a b:BC}:AK L (.code (.seq a b)::k) st Q↔AK L (.code a :: .code b::k) st Q:=I0 λ_ _=>rfl
theorem pS {id:Nat} {c:BC}:AK L (.code (.block id c)::k) st Q↔AK L (.code c :: .e8 id::k) st Q:=I0 λ_ _=>rfl
theorem pX {c:BC}:AK L (.code (.loop c)::k) st Q↔AK L (.code c :: .lp c::k) st Q:=I0 λ_ _=>rfl
theorem pW {id:Nat} {k':List It} (h:EX id k=some k'):AK L (.code (.exit id)::k) st Q↔AK L k' st Q:=I0 λ C n=>by simp [run,h]
theorem qB:AK L (.code .ret::k) st Q↔Q st:=by
 constructor
 ·rintro ⟨n,c,j7,hr,hq⟩
  cases n with
  | zero=>simp [run]at hr
  | succ n=>simp only[run,Option.some.injEq]at hr;exact hr ▸ hq
 ·exact λ h=>⟨1,0,st,rfl,h⟩
theorem pT {x:AM} {a b:BC} {t:Bool} (h:st.ev x = .bool t):AK L (.code (.cond x a b)::k) st Q↔if t=true then AK L (.code a::k) st Q else AK L (.code b::k) st Q:=by
 cases t
 ·simpa using I0 (k' := .code b::k) (A7:=st) λ C n=>by simp [run,h]
 ·simpa using I0 (k' := .code a::k) (A7:=st) λ C n=>by simp [run,h]
theorem qA {l:List AI} {d:Bool}:AK L (.code (.ops l d)::k) st Q↔AO L l k st Q:=by
 constructor
 ·rintro ⟨n,c,j7,hr,hq⟩
  cases n with
  | zero=>simp [run]at hr
  | succ n =>
   simp only[run]at hr;split at hr
   ·rename_i A7 hs
    exact ⟨n,c,A7,j7,hs,hr,hq⟩
   ·cases hr
 ·rintro ⟨n,c,A7,j7,hs,hr,hq⟩
  exact ⟨n+1,c,j7,by simp [run,hs,hr],hq⟩
theorem qM:AO L [] k st Q↔AK L k st Q:=by
 constructor
 ·rintro ⟨n,c,A7,j7,hs,hr,hq⟩
  simp only[C6,Option.some.injEq]at hs;exact ⟨n,c,j7,hs ▸ hr,hq⟩
 ·rintro ⟨n,c,j7,hr,hq⟩
  exact ⟨n,c,st,j7,rfl,hr,hq⟩
theorem qP {o:AI} {l:List AI} {A7:St} (h : ∀ C,C3 C o st=some A7):AO L (o::l) k st Q↔AO L l k A7 Q:=by
 constructor
 ·rintro ⟨n,c,BO,j7,hs,hr,hq⟩
  simp only[C6,h]at hs;exact ⟨n,c,BO,j7,hs,hr,hq⟩
 ·rintro ⟨n,c,BO,j7,hs,hr,hq⟩
  exact ⟨n,c,BO,j7,by simpa only[C6,h] using hs,hr,hq⟩
theorem qN {d:Option Nat} {op:DL} {g:Option (Nat × Bool)} {b9:List Nat} {l:List AI} (h:E4 st g=some false):AO L (⟨d,op,g,b9⟩::l) k st Q↔AO L l k (st.dst d (.j5 [])) Q :=
 qP λ C=>by simp [C3,h]
theorem UW (c:Nat):(C8 L c).num=L.num:=rfl
theorem qO {d:Option Nat} {op:DL} {g:Option (Nat × Bool)} {b9:List Nat} {l:List AI} {E:BW} (h:E4 st g=some true) (he : ∀ c,c8 (C8 L c) b9 st.ev st.own op=some E):AO L (⟨d,op,g,b9⟩::l) k st Q↔AO L l k (st.app d E) Q:=by
 have h : ∀ c,C3 (C8 L c) ⟨d,op,g,b9⟩ st=some (st.app d E):=λ c=>by simp [C3,h,he]
 constructor
 ·rintro ⟨n,c,BO,j7,hs,hr,hq⟩
  simp only[C6,h]at hs;exact ⟨n,c,BO,j7,hs,hr,hq⟩
 ·rintro ⟨n,c,BO,j7,hs,hr,hq⟩
  exact ⟨n,c,BO,j7,by simpa only[C6,h] using hs,hr,hq⟩
theorem qF {d:Option Nat} {f:Nat} {xs:List AM} {g:Option (Nat × Bool)} {b9:List Nat} {l:List AI} {vs:List AV} {r:AV} (h:E4 st g=some true) (hv:(xs.map st.ev).mapM (DB (st.own.l9 b9) true)=some vs) (hr:Ev L f vs r) :
  AO L (⟨d,.call f xs,g,b9⟩::l) k st Q↔AO L l k (st.dst d r) Q:=by
 have j9 : ∀ c r',G6 L c f vs=some r'->C3 (C8 L c) ⟨d,.call f xs,g,b9⟩ st=some (st.dst d r'):=λ c r' hc=>by
  have u7:(C8 L c).pure f vs=some r':=hc;simp [C3,h,c8,hv,u7,St.app]
 constructor
 ·rintro ⟨n,c,BO,j7,hs,dt,hq⟩
  simp only[C6]at hs;cases hI:C3 (C8 L c) ⟨d,.call f xs,g,b9⟩ st with
  | none=>simp [hI]at hs
  | some A7 =>
   simp only[hI]at hs;cases hp:G6 L c f vs with
   | none =>
    have u7:(C8 L c).pure f vs=none:=hp;simp [C3,h,c8,hv,u7]at hI
   | some r' =>
    obtain rfl:r'=r:=Ev.wh ⟨c,hp⟩ hr;rw[j9 c r' hp]at hI;obtain rfl:=Option.some.inj hI;exact ⟨n,c,BO,j7,hs,dt,hq⟩
 ·rintro ⟨n,c,BO,j7,hs,dt,hq⟩
  obtain ⟨c',u7⟩:=hr;have l1:=FJ (L:=L) (Nat.le_max_left c c');have l2:=FJ (L:=L) (Nat.le_max_right c c');refine ⟨n,max c c',BO,j7,?_,NZ l1 (Nat.le_refl n) dt,hq⟩;simp only[C6];rw[j9 (max c c') r (l2.1 f vs r u7)];exact N4 l1 hs
theorem qH {d:Option Nat} {f:Nat} {x:AM} {xs:List AM} {g:Option (Nat × Bool)} {b9:List Nat} {l:List AI} {vs:List AV} {r:AV} (h:E4 st g=some true) (hx:st.ev x = .fn true f (L.num f) []) (hv:(xs.map st.ev).mapM (DB st.own true)=some vs) (hr:Ev L f vs r) :
  AO L (⟨d,.n9 x xs,g,b9⟩::l) k st Q↔AO L l k (st.dst d r) Q:=by
 have j9 : ∀ c r',G6 L c f vs=some r'->C3 (C8 L c) ⟨d,.n9 x xs,g,b9⟩ st=some (st.dst d r'):=λ c r' hc=>by
  have u7:(C8 L c).pure f vs=some r':=hc;simp [C3,h,c8,hx,UW,hv,u7,St.app]
 constructor
 ·rintro ⟨n,c,BO,j7,hs,dt,hq⟩
  simp only[C6]at hs;cases hI:C3 (C8 L c) ⟨d,.n9 x xs,g,b9⟩ st with
  | none=>simp [hI]at hs
  | some A7 =>
   simp only[hI]at hs;cases hp:G6 L c f vs with
   | none =>
    have u7:(C8 L c).pure f vs=none:=hp;simp [C3,h,c8,hx,UW,hv,u7]at hI
   | some r' =>
    obtain rfl:r'=r:=Ev.wh ⟨c,hp⟩ hr;rw[j9 c r' hp]at hI;obtain rfl:=Option.some.inj hI;exact ⟨n,c,BO,j7,hs,dt,hq⟩
 ·rintro ⟨n,c,BO,j7,hs,dt,hq⟩
  obtain ⟨c',u7⟩:=hr;have l1:=FJ (L:=L) (Nat.le_max_left c c');have l2:=FJ (L:=L) (Nat.le_max_right c c');refine ⟨n,max c c',BO,j7,?_,NZ l1 (Nat.le_refl n) dt,hq⟩;simp only[C6];rw[j9 (max c c') r (l2.1 f vs r u7)];exact N4 l1 hs
theorem qI {d:Option Nat} {f:Nat} {xs:List AM} {g:Option (Nat × Bool)} {b9:List Nat} {l:List AI} {r:AV} (h:E4 st g=some true) (hq:(xs.map st.ev).all dq=true) (hr:Ev L f ((xs.map st.ev).map qt) r) (cn:HE r\/O2 r) :
  AO L (⟨d,.k9 f xs,g,b9⟩::l) k st Q↔AO L l k (st.dst d (JU r)) Q:=by
 have j9 : ∀ c,G6 L c f ((xs.map st.ev).map qt)=some r->C3 (C8 L c) ⟨d,.k9 f xs,g,b9⟩ st=some (st.dst d (JU r)):=λ c hc=>by
  have u7:(C8 L c).pure f ((xs.map st.ev).map qt)=some r:=hc;simp only[C3,h,c8];rw[if_pos hq,u7];simp only[if_pos cn,Option.map_some,St.app]
 constructor
 ·rintro ⟨n,c,BO,j7,hs,dt,xo⟩
  simp only[C6]at hs;cases hp:G6 L c f ((xs.map st.ev).map qt) with
  | none =>
   have u7:(C8 L c).pure f ((xs.map st.ev).map qt)=none:=hp;simp only[C3,h,c8]at hs;rw[if_pos hq,u7]at hs;simp at hs
  | some r' =>
   obtain rfl:r'=r:=Ev.wh ⟨c,hp⟩ hr;rw[j9 c hp]at hs;exact ⟨n,c,BO,j7,hs,dt,xo⟩
 ·rintro ⟨n,c,BO,j7,hs,dt,xo⟩
  obtain ⟨c',u7⟩:=hr;have l1:=FJ (L:=L) (Nat.le_max_left c c');have l2:=FJ (L:=L) (Nat.le_max_right c c');refine ⟨n,max c c',BO,j7,?_,NZ l1 (Nat.le_refl n) dt,xo⟩;simp only[C6];rw[j9 (max c c') (l2.1 f _ r u7)];exact N4 l1 hs
theorem qJ {d:Option Nat} {s f:Nat} {xs:List AM} {g:Option (Nat × Bool)} {b9:List Nat} {l:List AI} {vs:List AV} {z:Nat} {es:List (List AV)} (h:E4 st g=some true) (hv:(xs.map st.ev).mapM (M6 (st.own.l9 b9) true)=some vs) (hr:NA L f vs z es)
  (ha:AO L l k (st.app d (.new s ⟨z,es⟩ (λ t => .row s t z 0 es.length))) Q):AO L (⟨d,.o6 s f xs,g,b9⟩::l) k st Q:=by
 obtain ⟨n,c,BO,j7,hs,dt,hq⟩:=ha;obtain ⟨c',u7⟩:=hr;have l1:=FJ (L:=L) (Nat.le_max_left c c');have l2:=FJ (L:=L) (Nat.le_max_right c c');have qh:MO ((C8 L (max c c')).dh f vs AH.emp)=some (z,es):=dS (l2.2.1 f vs AH.emp) u7;refine ⟨n,max c c',BO,j7,?_,NZ l1 (Nat.le_refl n) dt,hq⟩;simp only[C6];have:C3 (C8 L (max c c')) ⟨d,.o6 s f xs,g,b9⟩ st=some (st.app d (.new s ⟨z,es⟩ (λ t => .row s t z 0 es.length))):=by
  simp only[C3,h,c8,hv,qh,Option.map_some]
 rw[this];exact N4 l1 hs
def cV (L:Lib) (s f:Nat) (vs:List AV) (q:BX) (r:AV) (q':BX):Prop := ∃ n,∀ o:AH,o s=q->DD L n f vs o=some (r,o.put s q')
theorem qL {d:Option Nat} {s f:Nat} {xs:List AM} {g:Option (Nat × Bool)} {b9:List Nat} {l:List AI} {r:AV} {q':BX} (h:E4 st g=some true) (hr:cV L s f (xs.map st.ev) (st.own s) r q')
  (ha:AO L l k (st.app d (.nr s q' r)) Q):AO L (⟨d,.y6 s f xs,g,b9⟩::l) k st Q:=by
 obtain ⟨n,c,BO,j7,hs,dt,hq⟩:=ha;obtain ⟨c',u7⟩:=hr;have l1:=FJ (L:=L) (Nat.le_max_left c c');have l2:=FJ (L:=L) (Nat.le_max_right c c');have qh:UT (C8 L (max c c')) f (xs.map st.ev) s (st.own s)=some (r,q'):=UU.2 λ o ho=>l2.2.1 f _ o _ (u7 o ho)
 refine ⟨n,max c c',BO,j7,?_,NZ l1 (Nat.le_refl n) dt,hq⟩;simp only[C6];have:C3 (C8 L (max c c')) ⟨d,.y6 s f xs,g,b9⟩ st=some (st.app d (.nr s q' r)):=by
  simp only[C3,h,c8,qh,Option.map_some]
 rw[this];exact N4 l1 hs
theorem qG {d:Option Nat} {f:Nat} {xs:List AM} {g:Option (Nat × Bool)} {b9:List Nat} {l:List AI} {r:AV} {o':AH} (h:E4 st g=some true) (hr:FX L f (xs.map st.ev) st.own r o') :
  AO L (⟨d,.g6 f xs,g,b9⟩::l) k st Q↔AO L l k { (st.dst d r) with own:=o' } Q:=by
 have j9 : ∀ c r' o1,DD L c f (xs.map st.ev) st.own=some (r',o1)->C3 (C8 L c) ⟨d,.g6 f xs,g,b9⟩ st=some { (st.dst d r') with own:=o1 }:=λ c r' o1 hc=>by
  have u7:(C8 L c).dh f (xs.map st.ev) st.own=some (r',o1):=hc;simp [C3,h,c8,u7,St.app]
 constructor
 ·rintro ⟨n,c,BO,j7,hs,dt,hq⟩
  simp only[C6]at hs;cases hI:C3 (C8 L c) ⟨d,.g6 f xs,g,b9⟩ st with
  | none=>simp [hI]at hs
  | some A7 =>
   simp only[hI]at hs;cases hp:DD L c f (xs.map st.ev) st.own with
   | none =>
    have u7:(C8 L c).dh f (xs.map st.ev) st.own=none:=hp;simp [C3,h,c8,u7]at hI
   | some x =>
    obtain ⟨r',o1⟩:=x;obtain ⟨rfl,rfl⟩:=FX.wh ⟨c,hp⟩ hr;rw[j9 c r' o1 hp]at hI;obtain rfl:=Option.some.inj hI;exact ⟨n,c,BO,j7,hs,dt,hq⟩
 ·rintro ⟨n,c,BO,j7,hs,dt,hq⟩
  obtain ⟨c',u7⟩:=hr;have l1:=FJ (L:=L) (Nat.le_max_left c c');have l2:=FJ (L:=L) (Nat.le_max_right c c');refine ⟨n,max c c',BO,j7,?_,NZ l1 (Nat.le_refl n) dt,hq⟩;simp only[C6];rw[j9 (max c c') r o' (l2.2.1 f _ _ _ u7)];exact N4 l1 hs
theorem qK {d:Option Nat} {f:Nat} {cs:List AV} {x:AM} {xs:List AM} {g:Option (Nat × Bool)} {b9:List Nat} {l:List AI} {r:AV} {o':AH} (h:E4 st g=some true) (hx:st.ev x = .fn false f (L.num f) cs) (hr:FX L f (xs.map st.ev++cs) st.own r o') :
  AO L (⟨d,.n9 x xs,g,b9⟩::l) k st Q↔AO L l k { (st.dst d r) with own:=o' } Q:=by
 have j9 : ∀ c r' o1,DD L c f (xs.map st.ev++cs) st.own=some (r',o1)->C3 (C8 L c) ⟨d,.n9 x xs,g,b9⟩ st=some { (st.dst d r') with own:=o1 }:=λ c r' o1 hc=>by
  have u7:(C8 L c).dh f (xs.map st.ev++cs) st.own=some (r',o1):=hc;simp [C3,h,c8,hx,UW,u7,St.app]
 constructor
 ·rintro ⟨n,c,BO,j7,hs,dt,hq⟩
  simp only[C6]at hs;cases hI:C3 (C8 L c) ⟨d,.n9 x xs,g,b9⟩ st with
  | none=>simp [hI]at hs
  | some A7 =>
   simp only[hI]at hs;cases hp:DD L c f (xs.map st.ev++cs) st.own with
   | none =>
    have u7:(C8 L c).dh f (xs.map st.ev++cs) st.own=none:=hp;simp [C3,h,c8,hx,UW,u7]at hI
   | some x =>
    obtain ⟨r',o1⟩:=x;obtain ⟨rfl,rfl⟩:=FX.wh ⟨c,hp⟩ hr;rw[j9 c r' o1 hp]at hI;obtain rfl:=Option.some.inj hI;exact ⟨n,c,BO,j7,hs,dt,hq⟩
 ·rintro ⟨n,c,BO,j7,hs,dt,hq⟩
  obtain ⟨c',u7⟩:=hr;have l1:=FJ (L:=L) (Nat.le_max_left c c');have l2:=FJ (L:=L) (Nat.le_max_right c c');refine ⟨n,max c c',BO,j7,?_,NZ l1 (Nat.le_refl n) dt,hq⟩;simp only[C6];rw[j9 (max c c') r o' (l2.2.1 f _ _ _ u7)];exact N4 l1 hs
theorem pY {Q':St->Prop} (h:AK L k st Q) (hq : ∀ s,Q s->Q' s):AK L k st Q':=by
 obtain ⟨n,c,j7,hr,hh⟩:=h;exact ⟨n,c,j7,hr,hq _ hh⟩
theorem FX.intro {f:Nat} {fn:AFn} {vs:List AV} {o:AH} {r:AV} {o':AH} (hL:L f=some fn) (hp:vs.length=fn.v9) (h:AK L [.code fn.body] ⟨CH 0 vs,o⟩ (λ st=>(fn.res.mapM (EQ st)).map G8=some r/\st.own=o')):FX L f vs o r o':=by
 obtain ⟨n,c,j7,hr,h1,h2⟩:=h;refine ⟨max n c+1,?_⟩;rw[SK];simp only[hL,hp,if_true];rw[NZ (FJ (L:=L) (Nat.le_max_right n c)) (Nat.le_max_left n c) hr];cases hm:fn.res.mapM (EQ j7) with
 | none=>rw[hm]at h1;cases h1
 | some rs =>
  rw[hm]at h1;simp only[Option.map_some,Option.some.injEq]at h1;simp [hm,h1,h2]
theorem E9.intro {f:Nat} {fn:AFn} {vs:List AV} {r:AV} (hL:L f=some fn) (hp:vs.length=fn.v9) (h:AK L [.code fn.body] ⟨CH 0 vs,AH.emp⟩ (λ st=>((fn.res.mapM (EQ st)).map G8).bind (OX st.own false)=some r/\A1 r)):E9 L f vs r:=by
 obtain ⟨n,c,j7,hr,h1,h2⟩:=h;cases hm:(fn.res.mapM (EQ j7)).map G8 with
 | none=>rw[hm]at h1;cases h1
 | some r0 =>
  rw[hm]at h1;simp only[Option.bind_some]at h1;obtain ⟨q,hq⟩:=FX.intro (o:=AH.emp) (r:=r0) (o':=j7.own) hL hp ⟨n,c,j7,hr,hm,rfl⟩;refine ⟨q,?_⟩;unfold HO;simp [hq,h1,h2]
theorem E9.ev {f:Nat} {fn:AFn} {vs:List AV} {r:AV} (hL:L f=some fn) (h:E9 L f vs r) (hs:fn.kj=false:=by rfl):Ev L f vs r:=by
 obtain ⟨n,h⟩:=h;have hs:L.kj f=false:=by simp only[Lib.kj,hL,hs]
 exact ⟨n,by unfold G6 JC;rw[hs];exact h⟩
theorem E9.cons {f:Nat} {q:Bool} {e:List AV} {es:List (List AV)} {vs:List AV} {r:AV} (h:E9 L f (.sl q (e::es)::vs) r):Ev L f (.sl q (e::es)::vs) r:=by
 obtain ⟨n,h⟩:=h;refine ⟨n,?_⟩;unfold G6 JC;split
 ·rename_i heq;simp at heq
 ·exact h
theorem E9.nil {f:Nat} {fn:AFn} {q:Bool} {vs:List AV} {r:AV} (hL:L f=some fn) (h1:E9 L f (.z9 (.bool true)::vs) r) (h2:E9 L f (.z9 (.bool false)::vs) r) (hs:fn.kj=true:=by rfl):Ev L f (.sl q []::vs) r:=by
 obtain ⟨n,h1⟩:=h1;obtain ⟨n',h2⟩:=h2;have hs:L.kj f=true:=by simp only[Lib.kj,hL,hs]
 have k1:=TE (λ vs r h=>(FJ (L:=L) (Nat.le_max_left n n')).2.1 f vs AH.emp r h) h1;have k2:=TE (λ vs r h=>(FJ (L:=L) (Nat.le_max_right n n')).2.1 f vs AH.emp r h) h2;refine ⟨max n n',?_⟩;unfold G6 JC;rw[hs];simp only;have Xb:HO (λ vs=>DD L (max n n') f vs AH.emp) (.z9 (.bool true)::vs)=some r:=k1;have Xc:HO (λ vs=>DD L (max n n') f vs AH.emp) (.z9 (.bool false)::vs)=some r:=k2;rw[Xb,Xc];simp
theorem Ev.intro {f:Nat} {fn:AFn} {vs:List AV} {r:AV} (hL:L f=some fn) (hp:vs.length=fn.v9) (h:AK L [.code fn.body] ⟨CH 0 vs,AH.emp⟩ (λ st=>((fn.res.mapM (EQ st)).map G8).bind (OX st.own false)=some r/\A1 r)) (hs:fn.kj=false:=by rfl):Ev L f vs r :=
 (E9.intro hL hp h).ev hL hs
end
end Go.c4
namespace Go.c4
section
variable {L:Lib} {k:List It} {tm:Tm} {own:AH} {Q:St->Prop} {l:List AI} {b9:List Nat} {d:Nat}
theorem TZ (i:Nat) (v:AV) (r:Tm) (j:Nat):e9 ((i,v)::r) j=if j=i then v else e9 r j:=rfl
theorem Re (j:Nat):e9 [] j = .any:=rfl
theorem Ra (i:Nat) (v:AV) (r:Tm) (l:List Nat):v7 ((i,v)::r) l=if l.contains i then v7 r l else (i,v)::v7 r l:=rfl
theorem Rb (l:List Nat):v7 [] l=[]:=rfl
theorem Nv (i:Nat) (v:AV) (r:List AV):CH i (v::r)=(i,v)::CH (i+1) r:=rfl
end
end Go.c4

namespace Go.c4
section
variable {L:Lib} {k:List It} {tm:Tm} {own:AH} {st:St} {Q:St->Prop} {l:List AI} {b9:List Nat} {d:Nat} {dst:Option Nat}
section
variable {x y:AM} {kd:IntKind} {a b:Int}
end
def RU (fn:AFn) (r:AV) (st:St):Prop:=((fn.res.mapM (EQ st)).map G8).bind (OX st.own false)=some r/\A1 r
theorem Ev.fwd {f:Nat} {fn:AFn} {vs:List AV} {r:AV} (hL:L f=some fn) (hp:vs.length=fn.v9) (h:AK L [.code fn.body] ⟨CH 0 vs,AH.emp⟩ (RU fn r)) (hs:fn.kj=false:=by rfl):Ev L f vs r:=Ev.intro hL hp h hs
theorem E9.fwd {f:Nat} {fn:AFn} {vs:List AV} {r:AV} (hL:L f=some fn) (hp:vs.length=fn.v9) (h:AK L [.code fn.body] ⟨CH 0 vs,AH.emp⟩ (RU fn r)):E9 L f vs r:=E9.intro hL hp h
end
attribute [irreducible] RU
end Go.c4

namespace Go.c4
def pw (n:Int):Int:=2^n.toNat
theorem Qw (n:Int):1<=pw n:=by
 have:0<pw n:=Int.pow_pos (by decide)
 omega
theorem Rx {k2:IntKind} {a n:Int} (h:0<=n/\n<=63):C9 .shr .i64 a k2 n=some (.int .i64 (a/pw n)):=by
 have h2:=Qw n;have e:(2:Int)^(min n.toNat IntKind.i64.bits)=pw n:=by
  have:min n.toNat IntKind.i64.bits=n.toNat:=by simp only[IntKind.bits];omega
  rw[this];rfl
 simp only[C9];rw[if_neg (by omega),e,Int.fdiv_eq_ediv_of_nonneg _ (by omega)]
theorem oU {a m:Int} (hm:0<m):a.tmod m=if 0<=a\/a%m=0 then a%m else a%m-m:=by
 have h:=Int.tmod_eq_emod (a:=a) (b:=m);rw[h];have hd:m ∣ a↔a%m=0:=Int.dvd_iff_emod_eq_zero;by_cases h0:0<=a\/a%m=0
 ·rw[if_pos h0,if_pos (by rcases h0 with h0|h0;exact Or.inl h0;exact Or.inr (hd.2 h0))];omega
 ·rw[if_neg h0,if_neg (λ h=>h0 (h.imp id hd.1))]
  have:(m.natAbs:Int)=m:=by omega
  omega
theorem oS {a m:Int} (hm:0<m):a.tdiv m=if 0<=a\/a%m=0 then a/m else a/m+1:=by
 have h:=Int.tdiv_eq_ediv (a:=a) (b:=m);rw[h];have hd:m ∣ a↔a%m=0:=Int.dvd_iff_emod_eq_zero;by_cases h0:0<=a\/a%m=0
 ·rw[if_pos h0,if_pos (by rcases h0 with h0|h0;exact Or.inl h0;exact Or.inr (hd.2 h0))];omega
 ·rw[if_neg h0,if_neg (λ h=>h0 (h.imp id hd.1)),Int.sign_eq_one_of_pos hm]
theorem xZ {a m:Int} (hm:1<=m) (h : -9223372036854775808<=a/\a<=9223372036854775807) : -9223372036854775808<=a/m/\a/m<=9223372036854775807:=by
 constructor
 ·rw[Int.le_ediv_iff_mul_le (by omega)]
  have:=Int.mul_le_mul_of_nonpos_left (a := -9223372036854775808) (b:=m) (c:=1) (by omega) hm
  omega
 ·have:a/m<9223372036854775808:=by
   rw[Int.ediv_lt_iff_lt_mul (by omega)];have:=Int.mul_le_mul_of_nonneg_left (c:=9223372036854775808) (a:=1) (b:=m) hm (by omega)
   omega
  omega
section
variable {L:Lib} {k:List It} {tm:Tm} {own:AH} {Q:St->Prop} {l:List AI} {b9:List Nat} {d:Nat} {x y:AM} {a b n p:Int} {k2:IntKind}
end
end Go.c4

namespace Go.c4
theorem RJ (ts:List Nat) (j:Nat) : ∀ tm:Tm,e9 (v7 tm ts) j=if ts.contains j then .any else e9 tm j
 | []=>by simp [Rb,Re]
 | (i,u)::r=>by
  rw[Ra];by_cases h:ts.contains i=true
  ·rw[if_pos h,RJ ts j r,TZ]
   by_cases h2:j=i
   ·subst h2;rw[if_pos h,if_pos h]
   ·rw[if_neg h2]
  ·rw[if_neg h,TZ,TZ,RJ ts j r]
   by_cases h2:j=i
   ·subst h2;rw[if_pos rfl,if_pos rfl,if_neg h]
   ·rw[if_neg h2,if_neg h2]
def NS (j:Nat):List Nat->Bool
 | []=>false
 | i::r=>bif Nat.beq j i then true else NS j r
abbrev QT (n:Int):List AV:=[.int .i64 n]
section
variable {L:Lib} {k:List It} {tm:Tm} {own:AH} {Q:St->Prop} {l:List AI} {b9:List Nat} {d:Nat} {x i:AM} {kd:IntKind} {a:Int} {q:Bool} {α:Type} {es:List α} {enc:α->List AV} {z:Nat}
end
end Go.c4

namespace Go.c4
inductive A3 where
 | bx (cs:List AV)
 | rw (z:Nat) (es:List (List AV))
 | bs (z:Nat) (es:List (List AV))
 | mx (rows:List (Option (Nat × List (List AV))))
 | hx (i:Nat) (v:AV) (rows:List (Option (Nat × List (List AV))))
 | vw (w:List Nat) (rows:List (Option (Nat × List (List AV))))
abbrev Mem:=List (Nat × Nat × A3)
def c7:Mem->Nat->Option (Nat × A3)
 | [],_=>none
 | (k,s,c)::r,j=>bif Nat.beq j k then some (s,c) else c7 r j
def c6 (M:Mem) (k t:Nat):Option A3:=match c7 M k with
 | none=>none
 | some (_,c)=>match t with
  | 0=>some c
  | i+1=>match c with
   | .mx rows=>match rows[i]? with
    | some (some (z,es))=>some (.rw z es)
    | _=>none
   | .hx _ _ rows=>match rows[i]? with
    | some (some (z,es))=>some (.rw z es)
    | _=>none
   | .vw _ rows=>match rows[i]? with
    | some (some (z,es))=>some (.rw z es)
    | _=>none
   | _=>none
def n0 (j:Nat):Mem->Mem
 | []=>[]
 | (k,s,c)::r=>bif Nat.beq j k then n0 j r else (k,s,c)::n0 j r
def tg:Tm->Nat->AV
 | [],_ => .any
 | (i,v)::r,j=>bif Nat.beq j i then v else tg r j
def bit (m i:Nat):Bool:=Nat.beq (Nat.land (Nat.shiftRight m i) 1) 1
def mask:Nat->List Nat->Nat
 | m,[]=>m
 | m,t::ts=>mask (Nat.lor m (Nat.shiftLeft 1 t)) ts
def qw (m:Nat):Tm->Tm
 | []=>[]
 | (i,v)::r=>bif bit m i then qw m r else (i,v)::qw (Nat.lor m (Nat.shiftLeft 1 i)) r
def fN (n:Nat) (K:Nat->Prop):Prop:=match n with
 | 0=>K 0
 | k+1=>K (k+1)
def nu:AV->Bool
 | .int _ _=>true | .bool _=>true | .z9 _=>true | .sl _ _=>true | .nil=>true
 | _=>false
def DW:List AV->Bool
 | []=>true
 | v::r=>bif nu v then DW r else false
def SE:List (List AV)->Bool
 | []=>true
 | v::r=>bif DW v then SE r else false
def MB (s:Nat):AV->Bool
 | .row k _ _ _ _=>Nat.beq k s | .ptr k _ _ _=>Nat.beq k s
 | _=>false
def G9 (s:Nat):List AV->Bool
 | []=>false
 | v::r=>bif MB s v then true else G9 s r
def H9 (s:Nat):List (List AV)->Bool
 | []=>false
 | v::r=>bif G9 s v then true else H9 s r
def NY (s:Nat):AV->Bool
 | .agg cs=>G9 s cs
 | .fn _ _ _ cs=>G9 s cs
 | v=>MB s v
def RE (s:Nat):List AV->Bool
 | []=>false
 | v::r=>bif NY s v then true else RE s r
def MC (s:Nat):AV->Bool
 | .j5 vs=>RE s vs
 | v=>NY s v
def HA (s:Nat):Tm->Bool
 | []=>false
 | (_,v)::r=>bif MC s v then true else HA s r
def GH (s:Nat):A3->Bool
 | .bx cs=>G9 s cs
 | .rw _ _=>false
 | .bs _ es=>H9 s es
 | .mx _=>false
 | .hx _ _ _=>false
 | .vw _ _=>false
def F5 (s:Nat):Mem->Bool
 | []=>false
 | (k,_,c)::r=>bif Nat.beq s k then true else bif GH s c then true else F5 s r
def NG (s:Nat):AV->Bool
 | .row k t _ _ _=>bif Nat.beq k s then (match t with|0=>false|_+1=>true) else false
 | .ptr k t _ _=>bif Nat.beq k s then (match t with|0=>false|_+1=>true) else false
 | _=>false
def MQ (s:Nat):List AV->Bool
 | []=>false
 | v::r=>bif NG s v then true else MQ s r
def PF (s:Nat):AV->Bool
 | .agg cs=>MQ s cs
 | .fn _ _ _ cs=>MQ s cs
 | v=>NG s v
def QM (s:Nat):List AV->Bool
 | []=>false
 | v::r=>bif PF s v then true else QM s r
def OG (s:Nat):AV->Bool
 | .j5 vs=>QM s vs
 | v=>PF s v
def MR (s:Nat):Tm->Bool
 | []=>false
 | (_,v)::r=>bif OG s v then true else MR s r
def QN (s:Nat):List (List AV)->Bool
 | []=>false
 | v::r=>bif MQ s v then true else QN s r
def NH (s:Nat):A3->Bool
 | .bx cs=>MQ s cs
 | .bs _ es=>QN s es
 | _=>false
def I4 (s:Nat):Mem->Bool
 | []=>false
 | (_,_,c)::r=>bif NH s c then true else I4 s r
def used (k:Nat) (tm:Tm) (M:Mem):Bool:=bif F5 k M then true else HA k tm
def V1 (tm:Tm) (M:Mem):List Nat->(Nat->Prop)->Prop
 | [],_=>False
 | k::r,K=>bif used k tm M then V1 tm M r K else K k
def E1 (s:Nat) (tm:Tm) (M:Mem) (K:Nat->Prop):Prop:=V1 tm M [s,s+1000000,s+2000000,s+3000000] K
def fL:List AV->(List AV->Prop)->Prop
 | [],K=>K []
 | v::r,K=>fL r λ r'=>K (v::r')
def fV (v:AV) (K:AV->Prop):Prop:=match v with
 | .int k n=>K (.int k n) | .bool b=>K (.bool b) | .sl l es=>K (.sl l es) | .row s t z o n=>K (.row s t z o n)
 | .nil=>K .nil | .ptr s t i j=>K (.ptr s t i j) | .o8 cs=>K (.o8 cs) | .agg cs=>fL cs λ cs=>K (.agg cs)
 | .fn p f g cs=>fL cs λ cs=>K (.fn p f g cs)
 | .j5 vs=>fL vs λ vs=>K (.j5 vs) | .z9 c=>K (.z9 c) | .any=>False
def fC (v:AV) (K:List AV->Prop):Prop:=match v with
 | .agg cs=>fL cs K
 | .fn _ _ _ _=>False
 | .j5 _=>False
 | .any=>False
 | v=>fV v λ v=>K [v]
def fB (b:Bool) (K:Bool->Prop):Prop:=match b with
 | true=>K true
 | false=>K false
def fT:Tm->(Tm->Prop)->Prop
 | [],K=>K []
 | (i,v)::r,K=>fT r λ r'=>K ((i,v)::r')
def fM:Mem->(Mem->Prop)->Prop
 | [],K=>K []
 | (k,s,c)::r,K=>fM r λ r'=>K ((k,s,c)::r')
def fF (v:AV) (K:AV->Prop):Prop:=match v with
 | .int k n=>K (.int k n) | .bool b=>K (.bool b) | .sl l es=>K (.sl l es) | .row s t z o n=>K (.row s t z o n)
 | .nil=>K .nil | .ptr s t i j=>K (.ptr s t i j) | .z9 c=>K (.z9 c)|_=>False
def f2 (v:AV) (K:AV->Prop):Prop:=match v with
 | .int k n=>K (.int k n) | .bool b=>K (.bool b) | .sl l es=>K (.sl l es) | .row s t z o n=>K (.row s t z o n)
 | .nil=>K .nil | .ptr s t i j=>K (.ptr s t i j) | .z9 c=>K (.z9 c) | .agg cs=>fL cs λ cs=>K (.agg cs) | .fn p f g cs=>fL cs λ cs=>K (.fn p f g cs)|_=>False
def kg (agg:Bool) (ds:List AV) (K:AV->Prop):Prop:=match agg with
 | true=>K (.agg ds)
 | false=>match ds with
  | [c]=>fF c K
  | _=>False
def AF (p q A B:Prop):Prop:=(p->A)/\(q->B)
def AU (p A:Prop):Prop:=p/\A
def AC (op:BinOp) (k:IntKind) (a:Int) (k':IntKind) (b:Int) (K:AV->Prop):Prop := ∃ v,C9 op k a k' b=some v/\K v
def B6 (op:UnOp) (k:IntKind) (n:Int) (K:AV->Prop):Prop := ∃ v,O0 op (.int k n)=some v/\K v
def AQ (k:IntKind) (n:Int) (K:Int->Prop):Prop:=K (k.wrap n)
def AX (es:List (List AV)) (a:Int) (z:Nat) (K:List AV->Prop):Prop:=0<=a /\ ∃ cs,es[a.toNat]? = some cs/\cs.length=z/\K cs
def A9 (es:List (List AV)) (i j n:Nat) (K:List AV->Prop):Prop := ∃ cs ds,es[i]? = some cs/\part cs j n=some ds/\K ds
def A4 (es:List (List AV)) (i j:Nat) (vs:List AV) (K:List (List AV)->Prop):Prop := ∃ cs,es[i]? = some cs/\j+vs.length<=cs.length/\K (es.set i (splice cs j vs))
def BS (a b:Int) (bytes:Nat) (zero:List AV) (K:List (List AV)->Nat->Prop):Prop:=(0<=a/\a<=b/\b*bytes<=EA/\b<=9223372036854775807)/\K (List.replicate a.toNat zero) a.toNat
def AP (es:List (List AV)) (K:Nat->Prop):Prop:=K es.length
def BR (es:List (List AV)) (len:Nat) (ys:List (List AV)) (z bytes:Nat) (K:List (List AV)->Nat->Prop):Prop :=
 len<=es.length/\(∀ e∈ys,e.length=z)/\(len+ys.length)*bytes<=EA/\len+ys.length<=9223372036854775807/\K (es.take len++ys) (len+ys.length)
def B0 (ys:List (List AV)) (z bytes:Nat) (K:List (List AV)->Nat->Prop):Prop :=
 (∀ e∈ys,e.length=z)/\ys.length*bytes<=EA/\ys.length<=9223372036854775807/\K ys ys.length
def C2 (es:List (List AV)) (off len:Nat) (ys:List (List AV)) (z:Nat) (K:List (List AV)->Nat->Prop):Prop :=
 off+len<=es.length/\(∀ e∈ys,e.length=z)/\K (es.take off++ys.take len++es.drop (off+min ys.length len)) (min ys.length len)
def BN (es:List (List AV)) (off len:Nat) (K:List (List AV)->Prop):Prop:=off+len<=es.length/\K ((es.drop off).take len)
def E7:List AV->Bool
 | []=>true
 | v::r=>match v with
  | .int _ _=>E7 r | .bool _=>E7 r | .z9 _=>E7 r | .sl _ _=>E7 r
  | _=>false
def nl:AV->AV
 | .nil => .sl false []
 | v=>v
def KH:List AV->Bool
 | []=>true
 | v::r=>match v with
  | .int _ _=>KH r | .bool _=>KH r | .z9 _=>KH r | .sl _ _=>KH r | .nil=>KH r
  | _=>false
def A0 (es:List (List AV)) (off len:Nat) (K:List (List AV)->Prop):Prop:=off+len<=es.length/\(∀ e∈es,KH e=true)/\K (((es.drop off).take len).map λ e=>e.map nl)
def CG (rows:List (Option (Nat × List (List AV)))) (i:Nat) (K:Option (Nat × List (List AV))->Prop):Prop := ∃ r,rows[i]? = some r/\K r
def B4 (rows:List (Option (Nat × List (List AV)))) (i:Nat) (K:Nat->List (List AV)->Prop):Prop := ∃ z es,rows[i]? = some (some (z,es))/\K z es
def CM (rows:List (Option (Nat × List (List AV)))) (i z:Nat) (es:List (List AV)) (K:List (Option (Nat × List (List AV)))->Prop):Prop:=i<rows.length/\K (rows.set i (some (z,es)))
def CZ (rows:List (Option (Nat × List (List AV)))) (i z:Nat) (es es':List (List AV)) (K:List (Option (Nat × List (List AV)))->Prop):Prop:=es'.length=es.length/\K (rows.set i (some (z,es')))
def CU (a b:Int) (bytes:Nat) (K:List (Option (Nat × List (List AV)))->Nat->Prop):Prop:=(0<=a/\a<=b/\b*bytes<=EA/\b<=9223372036854775807)/\K (List.replicate a.toNat none) a.toNat
def CP (rows:List (Option (Nat × List (List AV)))) (len:Nat) (r:Option (Nat × List (List AV))) (bytes:Nat) (K:List (Option (Nat × List (List AV)))->Nat->Prop):Prop :=
 len=rows.length/\(len+1)*bytes<=EA/\len+1<=9223372036854775807/\K (rows++[r]) (len+1)
def OV (q:Bool):List (Option (Nat × List (List AV)))->List (List AV)
 | []=>[]
 | none::r=>[.sl false []]::OV q r
 | some (_,es)::r=>[.sl q es]::OV q r
def CN (q:Bool) (rows:List (Option (Nat × List (List AV)))) (off len:Nat) (K:List (List AV)->Prop):Prop :=
 off=0/\len=rows.length/\(∀ z es,some (z,es)∈rows -> ∀ e∈es,E7 e=true)/\K (OV q rows)
def BK (lo hi:Option Int) (len:Nat) (K:Nat->Nat->Prop):Prop :=
 ∃ a h:Nat,(match lo with|none=>a=0|some x=>0<=x/\a=x.toNat)/\(match hi with|none=>h=len|some x=>0<=x/\x<=len/\h=x.toNat)/\a<=h/\K a h
def B2 (z:Nat) (es:List (List AV)) (lo hi:Option Int) (K:List (List AV)->Prop):Prop:=(∀ e∈es,e.length=z)/\BK lo hi es.length λ a h=>K ((es.take h).drop a)
def AB (L:Lib) (f:Nat) (vs:List AV) (K:AV->Prop):Prop := ∃ r,Ev L f vs r/\K r
def cO (n:Nat) (cs ds:List AV) (K:Bool->Prop):Prop := ∃ a b,G7 cs=some a/\G7 ds=some b/\a.length=n/\b.length=n/\K (decide (a=b))
def VN:List AV->Bool
 | []=>true
 | .int _ _::r=>VN r
 | _=>false
def B9 (L:Lib) (f:Nat) (vs:List AV) (K:Nat->List (List AV)->Nat->Prop):Prop := ∃ z es n,NA L f vs z es/\n=es.length/\K z es n
abbrev FA:=Nat->Nat->Nat × Nat
def A7 (σ:FA):AV->AV
 | .row k t z o n => .row (σ k t).1 (σ k t).2 z o n
 | .ptr k t i j => .ptr (σ k t).1 (σ k t).2 i j
 | v=>v
def BO (σ:FA):AV->AV
 | .agg cs => .agg (cs.map (A7 σ))
 | .fn p f g cs => .fn p f g (cs.map (A7 σ))
 | v=>A7 σ v
def BB (σ:FA):AV->AV
 | .j5 vs => .j5 (vs.map (BO σ))
 | v=>BO σ v
def BT (σ:FA) (k:Nat):Nat->List (Option (Nat × List (List AV)))->List (List AV)
 | _,[]=>[]
 | i,none::r=>[.nil]::BT σ k (i+1) r
 | i,some (z,es)::r=>[.row (σ k (i+1)).1 (σ k (i+1)).2 z 0 es.length]::BT σ k (i+1) r
def A3.e8 (σ:FA) (k:Nat):A3->DJ
 | .bx cs=>⟨cs.length,[cs.map (A7 σ)]⟩
 | .rw z es=>⟨z,es⟩
 | .bs z es=>⟨z,es.map λ cs=>cs.map (A7 σ)⟩
 | .mx rows=>⟨1,BT σ k 0 rows⟩
 | .hx i v rows=>⟨1,(BT σ k 0 rows).set i [v]⟩
 | .vw w rows=>⟨1,w.map λ t=>((BT σ k 0 rows)[t]?).getD []⟩
def A3.iv:A3->Bool
 | .bx _=>false
 | _=>true
def EC (s:Nat):Bool:=Nat.blt s 900000
structure I2 (σ:FA) (own:AH) (M:Mem):Prop where
 site : ∀ k s c,c7 M k=some (s,c)->(σ k 0).1=s
 e8 : ∀ k t c,c6 M k t=some c->(own (σ k t).1).e8 (σ k t).2=some (c.e8 σ k)
 old : ∀ k t c,c6 M k t=some c->(σ k t).2<(own (σ k t).1).g7
 inj : ∀ k t k' t' c c',c6 M k t=some c->c6 M k' t'=some c'->σ k t=σ k' t'->k=k'/\t=t'
 low : ∀ k t c,c6 M k t=some c->c.iv=true->EC (σ k t).1=true
structure RX (σ:FA) (tm:Tm) (M:Mem) (st:St):Prop where
 tm : ∀ j,tg tm j = .any\/e9 st.tm j=BB σ (tg tm j)
 sat:I2 σ st.own M
def SQ (Q:Tm->Mem->Prop) (st:St):Prop := ∃ σ tm M,RX σ tm M st/\Q tm M
def AA (L:Lib) (k:List It) (tm:Tm) (M:Mem) (Q:Tm->Mem->Prop):Prop := ∀ σ st,RX σ tm M st->AK L k st (SQ Q)
def cN (L:Lib) (l:List AI) (k:List It) (tm:Tm) (M:Mem) (Q:Tm->Mem->Prop):Prop := ∀ σ st,RX σ tm M st->AO L l k st (SQ Q)
def A5 (L:Lib) (f:Nat) (vs:List AV) (tm:Tm) (M:Mem) (K:AV->Mem->Prop):Prop :=
 ∀ σ own,I2 σ own M -> ∃ r l8 σ' M',FX L f (vs.map (BB σ)) own (BB σ' r) l8/\I2 σ' l8 M'/\(∀ j,BB σ' (tg tm j)=BB σ (tg tm j))/\K r M'
def qT (L:Lib) (s f key:Nat) (rest:List AV) (M:Mem) (K:AV->Mem->Prop):Prop :=
 ∃ (cells cg:List AV) (kd:IntKind) (n:Int),c7 M key=some (s,.bx cells)/\DW cells=true/\DW cg=true/\(∀ (t:Nat) (q:BX),q.e8 t=some ⟨cells.length,[cells]⟩->cV L s f (.ptr s t 0 0::rest) q (.int kd n) (q.m7 t (some ⟨cg.length,[cg]⟩)))/\K (.int kd n) ((key,s,.bx cg)::M)
def cv:AV->AV
 | .agg cs=>bif DW cs then .agg cs else .any
 | .j5 [] => .j5 []
 | .o8 _ => .any
 | .fn p f g [] => .fn p f g []
 | v=>bif nu v then v else .any
def ex (tm:Tm):AM->AV
 | .t n=>tg tm n
 | .c v=>cv v
def kq (k k':IntKind):Bool:=decide (k=k')
def XH (op:BinOp) (k:IntKind) (a:Int) (k':IntKind) (b:Int) (K:AV->Prop):Prop:=match op with
 | .lss=>bif kq k k' then AF (a<b) (b<=a) (K (.bool true)) (K (.bool false)) else False
 | .leq=>bif kq k k' then AF (a<=b) (b<a) (K (.bool true)) (K (.bool false)) else False
 | .gtr=>bif kq k k' then AF (b<a) (a<=b) (K (.bool true)) (K (.bool false)) else False
 | .geq=>bif kq k k' then AF (b<=a) (a<b) (K (.bool true)) (K (.bool false)) else False
 | .eql=>bif kq k k' then AF (a=b) (a≠b) (K (.bool true)) (K (.bool false)) else False
 | .neq=>bif kq k k' then AF (a≠b) (a=b) (K (.bool true)) (K (.bool false)) else False
 | op=>AC op k a k' b K
noncomputable def PV (mx:Bool) (k:IntKind) (K:AV->Prop) (a:Int) (l:List AV):Prop :=
 List.rec (motive:=λ_=>Int->Prop) (λ a=>K (.int k a)) (λ v _ ih a=>match v with
  | .int _ b=>bif mx then AF (a<b) (b<=a) (ih b) (ih a) else AF (b<a) (a<=b) (ih b) (ih a)
  | _=>False) l a
def rq:List AV->Nat->AV
 | [],_ => .any
 | v::_,0=>v
 | _::r,n+1=>rq r n
def OS (s:Nat):List Nat->Bool
 | []=>true
 | b9 => !(NS s b9)
def PY:List Nat->Bool
 | []=>true
 | s::r=>bif EC s then false else PY r
def aQ (M:Mem) (k t:Nat) (K:Nat->List (List AV)->Prop):Prop:=match c7 M k with
 | some (_,c)=>match t with
  | 0=>match c with
   | .rw z es=>K z es
   | _=>False
  | i+1=>match c with
   | .mx rows=>B4 rows i K
   | _=>False
 | none=>False
def SI (M:Mem) (v:AV) (K:List (List AV)->Prop):Prop:=match v with
 | .sl _ es=>K es
 | .nil=>K []
 | .z9 (.bool _)=>K []
 | .row key t z off len=>aQ M key t λ z' es=>bif Nat.beq z z' then BN es off len K else False
 | _=>False
def QA (q:Bool) (M:Mem) (b9:List Nat) (v:AV) (K:AV->Prop):Prop:=match v with
 | .int k n=>K (.int k n)
 | .bool b=>K (.bool b)
 | .sl l es=>K (.sl l es)
 | .z9 c=>K (.z9 c)
 | .nil=>K (.sl false [])
 | .row key t z off len=>match c7 M key with
  | some (s,.rw z' es)=>match t with
   | 0=>bif Nat.beq z z' then bif OS s b9 then A0 es off len λ es=>K (.sl q es) else False else False
   | _+1=>False
  | some (_,.mx rows)=>match t with
   | 0=>False
   | i+1=>match b9 with
    | []=>B4 rows i λ z' es=>bif Nat.beq z z' then A0 es off len λ es=>K (.sl q es) else False
    | b::r=>bif PY (b::r) then B4 rows i λ z' es=>bif Nat.beq z z' then A0 es off len λ es=>K (.sl q es) else False else False
  | _=>False
 | _=>False
noncomputable def WH (q:Bool) (M:Mem) (b9:List Nat) (l:List AV):(List AV->Prop)->Prop :=
 List.rec (motive:=λ_=>(List AV->Prop)->Prop) (λ K=>K []) (λ v _ ih K=>QA q M b9 v λ v'=>ih λ r'=>K (v'::r')) l
noncomputable def bK (q:Bool) (M:Mem) (b9:List Nat) (l:List (List AV)):(List (List AV)->Prop)->Prop :=
 List.rec (motive:=λ_=>(List (List AV)->Prop)->Prop) (λ K=>K []) (λ v _ ih K=>WH q M b9 v λ v'=>ih λ r'=>K (v'::r')) l
noncomputable def TN (q:Bool) (M:Mem) (b9:List Nat) (v:AV) (K:AV->Prop):Prop:=match v with
 | .row key 0 z off len=>match c7 M key with
  | some (s,.bs z' es)=>bif Nat.beq z z' then bif OS s b9 then bif Nat.beq off 0 then AU (len=es.length) (bK q M b9 es λ es=>K (.sl q es)) else False else False else False
  | some (_,.mx rows)=>match b9 with
   | []=>bif Nat.beq z 1 then CN q rows off len λ es=>K (.sl q es) else False
   | _::_=>False
  | _=>QA q M b9 (.row key 0 z off len) K
 | v=>QA q M b9 v K
noncomputable def bL (q:Bool) (M:Mem) (b9:List Nat) (l:List AV):(List AV->Prop)->Prop :=
 List.rec (motive:=λ_=>(List AV->Prop)->Prop) (λ K=>K []) (λ v _ ih K=>TN q M b9 v λ v'=>ih λ r'=>K (v'::r')) l
noncomputable def OW (q:Bool) (M:Mem) (b9:List Nat) (v:AV) (K:AV->Prop):Prop:=match v with
 | .agg cs=>bL q M b9 cs λ cs=>K (.agg cs)
 | v=>TN q M b9 v K
noncomputable def WJ (tm:Tm) (M:Mem) (b9:List Nat) (l:List AM):(List AV->Prop)->Prop :=
 List.rec (motive:=λ_=>(List AV->Prop)->Prop) (λ K=>K []) (λ x _ ih K=>OW true M b9 (ex tm x) λ v=>ih λ vs=>K (v::vs)) l
noncomputable def WI (M:Mem) (b9:List Nat) (v:AV) (K:AV->Prop):Prop:=match v with
 | .nil=>K .nil
 | v=>OW true M b9 v K
noncomputable def bM (tm:Tm) (M:Mem) (b9:List Nat) (l:List AM):(List AV->Prop)->Prop :=
 List.rec (motive:=λ_=>(List AV->Prop)->Prop) (λ K=>K []) (λ x _ ih K=>WI M b9 (ex tm x) λ v=>ih λ vs=>K (v::vs)) l
noncomputable def Q0 (tm:Tm) (l:List AM):(List AV->Prop)->Prop :=
 List.rec (motive:=λ_=>(List AV->Prop)->Prop) (λ K=>K []) (λ x _ ih K=>fV (ex tm x) λ v=>ih λ vs=>K (v::vs)) l
def VY (tm:Tm) (o:Option AM) (K:Option Int->Prop):Prop:=match o with
 | none=>K none
 | some x=>match ex tm x with
  | .int _ n=>K (some n)
  | _=>False
def S3 (es:List (List AV)) (K:Nat->Prop):Prop:=match es with
 | []=>K 0
 | [_]=>K 1
 | [_,_]=>K 2
 | [_,_,_]=>K 3
 | [_,_,_,_]=>K 4
 | es=>K es.length
noncomputable def XM (tm:Tm) (z:Nat) (l:List AM):(List (List AV)->Prop)->Prop :=
 List.rec (motive:=λ_=>(List (List AV)->Prop)->Prop) (λ K=>K []) (λ x _ ih K=>fC (ex tm x) λ cs=>bif Nat.beq cs.length z then ih λ es=>K (cs::es) else False) l
noncomputable def Y1 (tm:Tm) (ps:List (Nat × Nat × AM)):List AV->(List AV->Prop)->Prop :=
 List.rec (motive:=λ_=>List AV->(List AV->Prop)->Prop) (λ cells K=>K cells) (λ p _ ih cells K=>fC (ex tm p.2.2) λ vs=>bif Nat.beq vs.length p.2.1 then bif Nat.ble (p.1+p.2.1) cells.length then fL (splice cells p.1 vs) λ cells=>ih cells K else False else False) ps
def OJ (tm:Tm):List AM->List AV
 | []=>[]
 | x::r=>ex tm x::OJ tm r
def O9 (tb:List Nat) (n:Int) (K:Nat->Prop):Prop:=0<=n /\ ∃ v,tb[n.toNat]? = some v/\K v
noncomputable def Z4 (tm:Tm) (l:List AM):(List AV->Prop)->Prop :=
 List.rec (motive:=λ_=>(List AV->Prop)->Prop) (λ K=>K []) (λ x _ ih K=>fF (ex tm x) λ v=>ih λ cs=>K (v::cs)) l
def Z9:AV->Bool
 | .agg _=>false | .fn _ _ _ _=>false | .j5 _=>false | .any=>false
 | _=>true
def TA:List AV->Bool
 | []=>true
 | v::r=>bif Z9 v then TA r else false
def PB (M:Mem) (v:AV):Option (Nat × Option (Nat × Nat × Nat)):=match v with
 | .row ky 0 1 0 1=>match c7 M ky with
  | some (_,.bs 1 [[.row k2 0 z 0 n]])=>some (ky,some (k2,z,n))
  | some (_,.rw 1 [[.nil]])=>some (ky,none)
  | _=>none
 | _=>none
def S2 (z:Nat):List (List AV)->Bool
 | []=>true
 | e::r=>bif Nat.beq e.length z then S2 z r else false
def XC (tm:Tm) (M:Mem) (s z bytes:Nat) (x y:AM) (K:AV->Mem->Prop):Prop:=match ex tm y with
 | .row ky 0 zy 0 ny=>match c7 M ky with
  | some (_,.bs z2 fm)=>bif Nat.beq zy z then bif Nat.beq z2 z then bif Nat.beq ny fm.length then bif S2 z fm then (match ex tm x with
   | .nil=>bif EC s then S3 fm λ n=>AU (n*bytes<=140737488355328/\n<=9223372036854775807) (E1 s tm M λ k=>K (.row k 0 z 0 n) ((k,s,.bs z fm)::M)) else False
   | .row kx 0 zx 0 len=>bif Nat.beq zx z then (match c7 M kx with
    | some (s',.bs z1 qe)=>bif Nat.beq z1 z then bif Nat.beq len qe.length then fM (n0 kx M) λ M'=>S3 (qe++fm) λ n=>AU (n*bytes<=140737488355328/\n<=9223372036854775807) (E1 s tm M λ k=>K (.row k 0 z 0 n) ((k,s',.bs z (qe++fm))::M')) else False else False
    | _=>False) else False
   | _=>False) else False else False else False else False
  | _=>False
 | _=>False
def bX (tm:Tm) (M:Mem) (K:AV->Mem->Prop) (n:Nat) (x v:AM):Prop:=match ex tm x with
 | .ptr key t i j=>fC (ex tm v) λ vs=>bif Nat.beq vs.length n then (match c7 M key with
  | some (s,c)=>match t with
   | 0=>match c with
    | .bx cs=>bif Nat.beq i 0 then bif Nat.ble (j+vs.length) cs.length then fL (splice cs j vs) λ bm=>K (.j5 []) ((key,s,.bx bm)::M) else False else False
    | .rw z es=>bif DW vs then A4 es i j vs λ es'=>K (.j5 []) ((key,s,.rw z es')::M) else False
    | .bs _ _=>False
    | .mx rows=>match vs with
     | [.row q7 0 z 0 m]=>bif Nat.beq key q7 then False else bif MR key tm then False else bif I4 key M then False else bif Nat.beq j 0 then (match c7 M q7 with
      | some (_,.rw z' es)=>bif Nat.beq z z' then fM (n0 q7 M) λ M'=>AU (m=es.length) (CM rows i z es λ cf=>K (.j5 []) ((key,s,.mx cf)::M')) else False
      | _=>False) else False
     | [.row q7 (t2+1) z 0 m]=>bif Nat.beq key q7 then bif Nat.beq j 0 then B4 rows t2 λ z' es=>bif Nat.beq z z' then AU (m=es.length/\i<rows.length) (K (.j5 []) ((key,s,.vw ((List.range rows.length).set i t2) rows)::M)) else False else False else False
     | _=>False
    | .hx i0 _ rows=>match vs with
     | [.row q7 0 z 0 m]=>bif Nat.beq key q7 then False else bif MR key tm then False else bif I4 key M then False else bif Nat.beq j 0 then (match c7 M q7 with
      | some (_,.rw z' es)=>bif Nat.beq z z' then fM (n0 q7 M) λ M'=>AU (i=i0/\m=es.length) (CM rows i z es λ cf=>K (.j5 []) ((key,s,.mx cf)::M')) else False
      | _=>False) else False
     | _=>False
    | .vw w rows=>match vs with
     | [.row q7 (t2+1) z 0 m]=>bif Nat.beq key q7 then bif Nat.beq j 0 then B4 rows t2 λ z' es=>bif Nat.beq z z' then AU (m=es.length/\i<w.length /\ ∀ t∈w,t<rows.length) (K (.j5 []) ((key,s,.vw (w.set i t2) rows)::M)) else False else False else False
     | _=>False
   | i'+1=>match c with
    | .mx rows=>bif DW vs then B4 rows i' λ z es=>A4 es i j vs λ es'=>CZ rows i' z es es' λ cf=>K (.j5 []) ((key,s,.mx cf)::M) else False
    | _=>False
  | none=>False) else False
 | _=>False
def BJ (r:AV) (K:AV->Prop):Prop:=(HE r\/O2 r)/\K (JU r)
noncomputable def XE (L:Lib) (tm:Tm) (M:Mem) (b9:List Nat) (K:AV->Mem->Prop):DL->Prop
 | .b7 x=>fV (ex tm x) λ v=>K v M
 | .w9 s z=>bif EC s then E1 s tm M λ k=>K (.row k 0 z 0 0) ((k,s,.rw z [])::M) else False
 | .pick c a b=>match ex tm c with
  | .bool true=>fV (ex tm a) λ v=>K v M
  | .bool false=>fV (ex tm b) λ v=>K v M
  | _=>False
 | .bin op x y=>match ex tm x,ex tm y with
  | .int k a,.int k' b=>XH op k a k' b λ v=>K v M
  | _,_=>False
 | .mv ne n x y=>match ex tm x,ex tm y with
  | .agg cs,.agg ds=>cO n cs ds λ b=>fB (bif ne then !b else b) λ c=>K (.bool c) M
  | _,_=>False
 | .beq ne x y=>match ex tm x,ex tm y with
  | .bool a,.bool b=>fB (bif ne then !(a == b) else a == b) λ c=>K (.bool c) M
  | _,_=>False
 | .un op x=>match ex tm x with
  | .int k n=>B6 op k n λ v=>K v M
  | .bool b=>match op with
   | .not=>fB (!b) λ c=>K (.bool c) M
   | _=>False
  | _=>False
 | .conv k x=>match ex tm x with
  | .int _ n=>AQ k n λ v=>K (.int k v) M
  | _=>False
 | .box s x=>fC (ex tm x) λ cs=>E1 s tm M λ k=>K (.ptr k 0 0 0) ((k,s,.bx cs)::M)
 | .alloc s zero=>bif DW zero then (E1 s tm M λ k=>K (.ptr k 0 0 0) ((k,s,.bx zero)::M)) else False
 | .build zero parts=>bif DW zero then Y1 tm parts zero λ cs=>K (.agg cs) M else False
 | .c9 s z parts=>bif EC s then XM tm z parts λ es=>S3 es λ n=>E1 s tm M λ k=>bif SE es then K (.row k 0 z 0 n) ((k,s,.rw z es)::M) else K (.row k 0 z 0 n) ((k,s,.bs z es)::M) else False
 | .a5 x off=>match ex tm x with
  | .ptr key t i j=>K (.ptr key t i (j+off)) M
  | .o8 cs=>fL (cs.drop off) λ cs=>K (.o8 cs) M
  | _=>False
 | .ja x off n agg=>match ex tm x with
  | .agg cs=>match part cs off n with
   | some ds=>fL ds λ ds=>kg agg ds λ v=>K v M
   | none=>False
  | _=>False
 | .a9 arr z x i=>match ex tm i with
  | .int _ n=>match arr,ex tm x with
   | some len,.ptr key t i' j=>AU (0<=n/\n<(len:Int)) (K (.ptr key t i' (j+n.toNat*z)) M)
   | some len,.o8 cs=>AU (0<=n/\n<(len:Int)) (fL (cs.drop (n.toNat*z)) λ cs=>K (.o8 cs) M)
   | none,.row key t z' off len=>bif Nat.beq z' z then AU (0<=n/\n<(len:Int)) (K (.ptr key t (off+n.toNat) 0) M) else False
   | none,.sl _ es=>AX es n z λ cs=>K (.o8 cs) M
   | _,_=>False
  | _=>False
 | .idx len z agg x i=>match ex tm i,ex tm x with
  | .int _ n,.agg cs=>AU (0<=n/\n<(len:Int)) (match part cs (n.toNat*z) z with
   | some ds=>fL ds λ ds=>kg agg ds λ v=>K v M
   | none=>False)
  | _,_=>False
 | .ld agg n x=>match ex tm x with
  | .ptr key t i j=>match c7 M key with
   | some (s,c)=>match t with
    | 0=>bif OS s b9 then (match c with
     | .bx cs=>bif Nat.beq i 0 then (match part cs j n with
      | some ds=>fL ds λ ds=>kg agg ds λ v=>K v M
      | none=>False) else False
     | .rw _ es=>A9 es i j n λ ds=>fL ds λ ds=>bif DW ds then kg agg ds λ v=>K v M else False
     | .bs _ es=>(match es[i]? with
      | some cs=>(match part cs j n with
       | some ds=>fL ds λ ds=>kg agg ds λ v=>K v M
       | none=>False)
      | none=>False)
     | .mx rows=>bif Nat.beq j 0 then bif Nat.beq n 1 then CG rows i λ r=>match r with
      | some (z,es)=>kg agg [.row key (i+1) z 0 es.length] λ v=>K v M
      | none=>kg agg [.nil] λ v=>K v M else False else False
     | .hx _ _ _=>False
     | .vw _ _=>False) else False
    | i'+1=>match c,b9 with
     | .mx rows,[]=>B4 rows i' λ_ es=>A9 es i j n λ ds=>fL ds λ ds=>bif DW ds then kg agg ds λ v=>K v M else False
     | .mx rows,b::r=>bif PY (b::r) then B4 rows i' λ_ es=>A9 es i j n λ ds=>fL ds λ ds=>bif DW ds then kg agg ds λ v=>K v M else False else False
     | _,_=>False
   | none=>False
  | .o8 cs=>match part cs 0 n with
   | some ds=>fL ds λ ds=>bif DW ds then kg agg ds λ v=>K v M else False
   | none=>False
  | _=>False
 | .st n x v=>bX tm M K n x v
 | .jl s n x v=>match ex tm x with
  | .ptr key 0 _ _=>(match c7 M key with
   | some (s',_)=>bif Nat.beq s' s then bX tm M K n x v else False
   | none=>False)
  | _=>False
 | .k9 f xs=>Q0 tm xs λ vs=>bif vs.all dq then AB L f (vs.map qt) λ r=>BJ r λ r=>K r M else False
 | .mk s z bytes zero l c=>match ex tm l,ex tm c with
  | .int _ a,.int _ b=>bif Nat.beq zero.length z then bif DW zero then match zero with
   | [.nil]=>bif EC s then CU a b bytes λ rows n=>E1 s tm M λ k=>K (.row k 0 z 0 n) ((k,s,.mx rows)::M) else False
   | zero=>bif EC s then (BS a b bytes zero λ es n=>E1 s tm M λ k=>K (.row k 0 z 0 n) ((k,s,.rw z es)::M)) else False else False else False
  | _,_=>False
 | .dc z x lo hi=>VY tm lo λ lo=>VY tm hi λ hi=>match ex tm x with
  | .sl l es=>B2 z es lo hi λ es=>K (.sl l es) M
  | .row key t z' off len=>bif Nat.beq z' z then BK lo hi len λ a h=>K (.row key t z (off+a) (h-a)) M else False
  | .nil=>(match lo,hi with
   | none,none=>K .nil M
   | some a,none=>AU (a=0) (K .nil M)
   | none,some h=>AU (h=0) (K .nil M)
   | some a,some h=>AU (a=0/\h=0) (K .nil M))
  | _=>False
 | .ext x i=>match ex tm x with
  | .j5 vs=>f2 (rq vs i) λ v=>K v M
  | _=>False
 | .len x=>match ex tm x with
  | .sl _ es=>AP es λ n=>K (.int .i64 (n:Int)) M
  | .nil=>K (.int .i64 0) M
  | .row _ _ _ _ n=>K (.int .i64 (n:Int)) M
  | _=>False
 | .mm mx xs=>match OJ tm xs with
  | .int k a::r=>PV mx k (λ v=>K v M) a r
  | _=>False
 | .app s z bytes x y=>bif Nat.ble 800000 s then XC tm M s z bytes x y K else (
  match PB M (ex tm y) with
  | some (ky,some (k2,z2,n2))=>match ex tm x with
   | .row key 0 z' off len=>bif Nat.beq off 0 then bif Nat.beq z' 1 then bif Nat.beq z 1 then bif Nat.beq key k2 then False else bif Nat.beq key ky then False else bif Nat.beq k2 ky then False else (match c7 M k2 with
    | some (_,.rw z3 es)=>bif Nat.beq z2 z3 then (match c7 M key with
     | some (s',.mx rows)=>fM (n0 key (n0 k2 (n0 ky M))) λ M'=>AU (n2=es.length) (CP rows len (some (z2,es)) bytes λ cf n=>E1 s tm M λ k=>K (.row k 0 z 0 n) ((k,s',.mx cf)::M'))
     | _=>False) else False
    | _=>False) else False else False else False
   | .nil=>bif EC s then bif Nat.beq z 1 then (match c7 M k2 with
    | some (_,.rw z3 es)=>bif Nat.beq z2 z3 then fM (n0 k2 M) λ M'=>AU (n2=es.length/\bytes<=140737488355328) (E1 s tm M λ k=>K (.row k 0 z 0 1) ((k,s,.mx [some (z2,es)])::M')) else False
    | _=>False) else False else False
   | _=>False
  | some (ky,none)=>match ex tm x with
   | .row key 0 z' off len=>bif Nat.beq off 0 then bif Nat.beq z' 1 then bif Nat.beq z 1 then bif Nat.beq key ky then False else (match c7 M key with
     | some (s',.mx rows)=>fM (n0 key M) λ M'=>CP rows len none bytes λ cf n=>E1 s tm M λ k=>K (.row k 0 z 0 n) ((k,s',.mx cf)::M')
     | _=>False) else False else False else False
   | .nil=>bif EC s then bif Nat.beq z 1 then AU (bytes<=140737488355328) (E1 s tm M λ k=>K (.row k 0 z 0 1) ((k,s,.mx [none])::M)) else False else False
   | _=>False
  | none=>SI M (ex tm y) λ ys=>match ex tm x with
   | .row key 0 z' off len=>bif Nat.beq off 0 then bif Nat.beq z' z then (match c7 M key with
    | some (s',.rw y5 es)=>bif Nat.beq y5 z then fM (n0 key M) λ M'=>(BR es len ys z bytes λ es' n=>E1 s tm M λ k=>K (.row k 0 z 0 n) ((k,s',.rw z es')::M')) else False
    | _=>False) else False else False
   | .row key (i+1) z' off len=>bif Nat.beq off 0 then bif Nat.beq z' z then (match c7 M key with
    | some (sk,.mx rows)=>fM (n0 key M) λ M'=>B4 rows i λ y5 es=>bif Nat.beq y5 z then (BR es len ys z bytes λ es' n => ∀ s' v,E1 s tm M λ k=>K (.row k 0 z 0 n) ((k,s',.rw z es')::(key,sk,.hx i v (rows.set i none))::M')) else False
    | _=>False) else False else False
   | .nil=>bif EC s then B0 ys z bytes λ es n=>E1 s tm M λ k=>K (.row k 0 z 0 n) ((k,s,.rw z es)::M) else False
   | _=>False)
 | .az s z bytes x y=>match ex tm y with
  | .sl _ ys=>match ex tm x with
   | .row key 0 z' off len=>bif Nat.beq off 0 then bif Nat.beq z' z then (match c7 M key with
    | some (s',.rw y5 es)=>bif Nat.beq s' s then bif Nat.beq y5 z then fM (n0 key M) λ M'=>(BR es len ys z bytes λ es' n=>E1 s tm M λ k=>K (.row k 0 z 0 n) ((k,s',.rw z es')::M')) else False else False
    | _=>False) else False else False
   | _=>False
  | _=>False
 | .jq z x y=>SI M (ex tm y) λ ys=>match ex tm x with
  | .row key 0 z' off len=>bif Nat.beq z' z then (match c7 M key with
   | some (s',.rw y5 es)=>bif Nat.beq y5 z then C2 es off len ys z λ es' n=>K (.int .i64 (n:Int)) ((key,s',.rw z es')::M) else False
   | _=>False) else False
  | _=>False
 | .call f xs=>WJ tm M b9 xs λ vs=>AB L f vs λ r=>K r M
 | .g6 f xs=>Q0 tm xs λ vs=>A5 L f vs tm M K
 | .o6 s f xs=>bif EC s then bM tm M b9 xs λ vs=>B9 L f vs λ z es n=>E1 s tm M λ k=>K (.row k 0 z 0 n) ((k,s,.rw z es)::M) else False
 | .mr ne x=>match ex tm x with
  | .nil=>fB (xor true ne) λ c=>K (.bool c) M
  | .z9 (.bool b)=>fB (xor b ne) λ c=>K (.bool c) M
  | .sl _ es=>AU (es≠[]) (fB (xor false ne) λ c=>K (.bool c) M)
  | .row _ _ _ _ n=>AU (0<n) (fB (xor false ne) λ c=>K (.bool c) M)
  | _=>False
 | .bad=>False
 | .nm x=>match ex tm x with
  | .ptr key t i j=>K (.ptr key t i j) M
  | _=>False
 | .dd x=>match ex tm x with
  | .nil=>K (.int .i64 0) M
  | _=>False
 | .jn s z bytes x y=>match ex tm x,ex tm y with
  | .nil,.int _ n=>bif EC s then AU (0<n/\n*bytes<=EA/\n<=9223372036854775807) (E1 s tm M λ k=>K (.row k 0 z 0 n.toNat) ((k,s,.rw z [])::M)) else False
  | _,_=>False
 | .y6 s f xs=>Q0 tm xs λ vs=>match vs with
  | .ptr key 0 0 0::rest=>bif VN rest then qT L s f key rest M K else False
  | _=>False
 | .jm s z bytes x y=>match ex tm x,ex tm y with
  | .nil,.sl _ ys=>bif EC s then B0 ys z bytes λ es n=>AU (0<n) (E1 s tm M λ k=>K (.row k 0 z 0 n) ((k,s,.rw z es)::M)) else False
  | _,_=>False
 | .ct tb x=>match ex tm x with
  | .int _ n=>O9 tb n λ v=>K (.int .u8 v) M
  | _=>False
 | .kf p f xs=>Z4 tm xs λ cs=>K (.fn p f (L.num f) cs) M
 | .n9 x xs=>match ex tm x with
  | .fn true f g []=>AU (g=L.num f) (WJ tm M [] xs λ vs=>AB L f vs λ r=>K r M)
  | .fn false f g cs=>bif TA cs then AU (g=L.num f) (Q0 tm xs λ vs=>fL (vs++cs) λ vs=>A5 L f vs tm M K) else False
  | _=>False
def ya (key:Nat):Tm->Tm
 | []=>[]
 | (j,v)::r=>bif OG key v then (j,.any)::ya key r else (j,v)::ya key r
def xk (v:AV) (tm:Tm) (K:Tm->Prop):Prop:=match v with
 | .row key (_+1) _ _ _=>fT (ya key tm) K
 | _=>K tm
noncomputable def XI (L:Lib) (o:AI) (ih:(Tm->Mem->Prop)->Tm->Mem->Prop) (K:Tm->Mem->Prop) (tm:Tm) (M:Mem):Prop:=match o with
 | ⟨some d,.app s z b x y,none,b9⟩=>XE L tm M b9 (λ v M=>xk (ex tm x) tm λ tm=>ih K ((d,v)::tm) M) (.app s z b x y)
 | ⟨some d,op,none,b9⟩=>XE L tm M b9 (λ v M=>ih K ((d,v)::tm) M) op
 | ⟨none,op,none,b9⟩=>XE L tm M b9 (λ_ M=>ih K tm M) op
 | ⟨dst,op,some (g,w),b9⟩=>match tg tm g with
  | .bool b=>fB (b == w) λ c=>match c,dst with
   | true,some d=>XE L tm M b9 (λ v M=>ih K ((d,v)::tm) M) op
   | true,none=>XE L tm M b9 (λ_ M=>ih K tm M) op
   | false,some d=>ih K ((d,.j5 [])::tm) M
   | false,none=>ih K tm M
  | .j5 []=>match dst with
   | some d=>ih K ((d,.j5 [])::tm) M
   | none=>ih K tm M
  | _=>False
noncomputable def XO (L:Lib) (l:List AI):(Tm->Mem->Prop)->Tm->Mem->Prop :=
 List.rec (motive:=λ_=>(Tm->Mem->Prop)->Tm->Mem->Prop) (λ K tm M=>K tm M) (λ o _ ih K tm M=>XI L o ih K tm M) l
noncomputable def XS (L:Lib) (Q:Tm->Mem->Prop) (ih:List It->Tm->Mem->Prop) (k:List It) (tm:Tm) (M:Mem):Prop:=match k with
 | []=>Q tm M
 | it::k=>match it with
  | .e8 _=>ih k tm M
  | .iz ts ss=>fN (mask 0 ts) λ m=>fT (qw m tm) λ tm=>match ss with
   | []=>ih k tm M
   | _::_=>False
  | .lp c=>AA L (.lp c::k) tm M Q
  | .code c=>match c with
   | .skip=>ih k tm M
   | .ops l _=>XO L l (λ tm M=>ih k tm M) tm M
   | .dr c ts ss=>ih (.code c :: .iz ts ss::k) tm M
   | .scope c=>ih (.code c::k) tm M
   | .seq a b=>ih (.code a :: .code b::k) tm M
   | .cond x a b=>match ex tm x with
    | .bool b'=>fB b' λ c=>match c with
     | true=>ih (.code a::k) tm M
     | false=>ih (.code b::k) tm M
    | _=>False
   | .block id c=>ih (.code c :: .e8 id::k) tm M
   | .loop c=>AA L (.lp c::k) tm M Q
   | .exit id=>match EX id k with
    | some k'=>ih k' tm M
    | none=>False
   | .ret=>Q tm M
noncomputable def XK (L:Lib) (Q:Tm->Mem->Prop) (n:Nat):List It->Tm->Mem->Prop :=
 Nat.rec (motive:=λ_=>List It->Tm->Mem->Prop) (λ k tm M=>AA L k tm M Q) (λ_ ih k tm M=>XS L Q ih k tm M) n
def TJ (tm:Tm) (M:Mem) (r:ID) (K:AV->Prop):Prop:=match r with
 | .tmp t=>f2 (tg tm t) K
 | .cell t agg n=>match tg tm t with
  | .ptr key 0 i j=>match c7 M key with
   | some (_,.bx cs)=>bif Nat.beq i 0 then (match part cs j n with
    | some ds=>fL ds λ ds=>kg agg ds K
    | none=>False) else False
   | _=>False
  | _=>False
noncomputable def V4 (tm:Tm) (M:Mem) (l:List ID):(List AV->Prop)->Prop :=
 List.rec (motive:=λ_=>(List AV->Prop)->Prop) (λ K=>K []) (λ x _ ih K=>TJ tm M x λ v=>ih λ vs=>K (v::vs)) l
noncomputable def bI (q:Bool) (M:Mem) (l:List AV):(List AV->Prop)->Prop :=
 List.rec (motive:=λ_=>(List AV->Prop)->Prop) (λ K=>K []) (λ x _ ih K=>OW q M [] x λ v=>ih λ vs=>K (v::vs)) l
def Jq (vs:List AV) (K:AV->Prop):Prop:=match vs with
 | [v]=>K v
 | vs=>K (.j5 vs)
def AJ (a r:AV):Prop:=a=r/\A1 r
noncomputable def OC (fn:AFn) (r:AV) (tm:Tm) (M:Mem):Prop:=V4 tm M fn.res λ vs=>bI false M vs λ vs=>Jq vs λ v=>AJ v r
end Go.c4
