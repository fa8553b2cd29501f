/-
  Rules to run the abstract machine by rewriting.
-/
import Derived.Test.YtplhdlbnneoobaaGreatB4
import Derived.Test.YtplhdlbnneoobaaGreatB1
import Derived.IntWalk
set_option linter.unusedSimpArgs false
set_option linter.unusedVariables false
set_option linter.unnecessarySimpa false
namespace Go.b7
section
variable {L:Lib}
def Cl.le (C C':Cl):Prop:=(∀ f vs r,C.pure f vs=some r->C'.pure f vs=some r)/\(∀ f vs o r,C.dm f vs o=some r->C'.dm f vs o=some r)/\C.num=C'.num
theorem jJ {x y:Option (AV × AH)} {r:Nat × List (List AV)} (h : ∀ q,x=some q->y=some q) (hr:ON x=some r):ON y=some r:=by
 cases x with
 | none=>simp [ON]at hr
 | some q=>rw[h q rfl];exact hr
theorem Qz {C C':Cl} (h:C.le C') {c4:List Nat} {ρ:AP->AV} {own:AH} {op:DR} {E:CG} (he:e8 C c4 ρ own op=some E):e8 C' c4 ρ own op=some E:=by
 cases op with
 | call f xs =>
  simp only[e8]at he ⊢;split at he
  ·rename_i vs br
   simp only[Option.map_eq_some_iff]at he ⊢;obtain ⟨r,hr,rfl⟩:=he;exact ⟨r,h.1 f vs r hr,rfl⟩
  ·cases he
 | e9 f xs =>
  simp only[e8,Option.map_eq_some_iff]at he ⊢;obtain ⟨r,hr,rfl⟩:=he;exact ⟨r,h.2.1 f _ own r hr,rfl⟩
 | ki p f xs=>simp only[e8]at he ⊢;rw[<-h.2.2];exact he
 | z7 s f xs =>
  simp only[e8,Option.map_eq_some_iff]at he ⊢;obtain ⟨p,hp,rfl⟩:=he;exact ⟨p,W8.2 λ o ho=>h.2.1 f _ o _ (W8.1 hp o ho),rfl⟩
 | o8 s f xs =>
  simp only[e8]at he ⊢;split at he
  ·rename_i vs br
   simp only[Option.map_eq_some_iff]at he ⊢;obtain ⟨r,hr,rfl⟩:=he;exact ⟨r,jJ (h.2.1 f vs AH.emp) hr,rfl⟩
  ·cases he
 | l8 f xs =>
  simp only[e8]at he ⊢;split at he
  ·rename_i hq
   rw[if_pos hq];split at he
   ·rename_i r hr
    rw[h.1 _ _ r hr];exact he
   ·cases he
  ·cases he
 | m6 x xs =>
  simp only[e8]at he ⊢;rw[<-h.2.2];split at he
  ·split at he
   ·rename_i hg
    rw[if_pos hg];split at he
    ·split at he
     ·rename_i vs br
      simp only[Option.map_eq_some_iff]at he ⊢;obtain ⟨r,hr,rfl⟩:=he;exact ⟨r,h.1 _ vs r hr,rfl⟩
     ·cases he
    ·simp only[Option.map_eq_some_iff]at he ⊢
     obtain ⟨r,hr,rfl⟩:=he;exact ⟨r,h.2.1 _ _ own r hr,rfl⟩
    ·split at he
     ·rename_i vs br
      simp only[Option.map_eq_some_iff]at he ⊢;obtain ⟨r,hr,rfl⟩:=he;exact ⟨r,h.1 _ vs r hr,rfl⟩
     ·cases he
   ·cases he
  ·cases he
 | _=>exact he
theorem Zx {C C':Cl} (h:C.le C') {o:AI} {st j7:St} (he:CZ C o st=some j7):CZ C' o st=some j7:=by
 unfold CZ at he ⊢;split at he
 ·simp only[Option.map_eq_some_iff]at he ⊢
  obtain ⟨E,h1,h2⟩:=he;exact ⟨E,Qz h h1,h2⟩
 ·exact he
 ·exact he
theorem O6 {C C':Cl} (h:C.le C') : ∀ {l:List AI} {st j7:St},C9 C l st=some j7->C9 C' l st=some j7
 | [],st,j7,he=>he
 | o::r,st,j7,he=>by
  simp only[C9]at he ⊢;cases hs:CZ C o st with
  | none=>simp [hs]at he
  | some A6 =>
   rw[Zx h hs];simp only[hs]at he;exact O6 h he
theorem O3 {C C':Cl} (h:C.le C') : ∀ {n n':Nat} {k:List It} {st j7:St},n<=n'->run C n k st=some j7->run C' n' k st=some j7:=by
 intro n;induction n with
 | zero=>intro n' k st j7 _ hr;simp [run]at hr
 | succ n ih =>
  intro n' k st j7 hn hr;obtain ⟨q,rfl⟩ : ∃ q,n'=q+1:=⟨n'-1,by omega⟩;have hq:n<=q:=by omega
  cases k with
  | nil=>exact hr
  | cons it k =>
   cases it with
   | c9 id=>simp only[run]at hr ⊢;exact ih hq hr
   | jx ts ss=>simp only[run]at hr ⊢;exact ih hq hr
   | lp c=>simp only[run]at hr ⊢;exact ih hq hr
   | code c =>
    cases c with
    | skip=>simp only[run]at hr ⊢;exact ih hq hr
    | ops l d =>
     simp only[run]at hr ⊢;cases hs:C9 C l st with
     | none=>simp [hs]at hr
     | some A6 =>
      rw[O6 h hs];simp only[hs]at hr;exact ih hq hr
    | dr c ts ss=>simp only[run]at hr ⊢;exact ih hq hr
    | scope c=>simp only[run]at hr ⊢;exact ih hq hr
    | seq a b=>simp only[run]at hr ⊢;exact ih hq hr
    | cond x a b =>
     simp only[run]at hr ⊢;split at hr
     ·exact ih hq hr
     ·exact ih hq hr
     ·cases hr
    | block id c=>simp only[run]at hr ⊢;exact ih hq hr
    | loop c=>simp only[run]at hr ⊢;exact ih hq hr
    | exit id =>
     simp only[run]at hr ⊢;split at hr
     ·exact ih hq hr
     ·cases hr
    | ret=>exact hr
theorem V1 {I I':List AV->Option (AV × AH)} (hI : ∀ vs r,I vs=some r->I' vs=some r) {vs:List AV} {r:AV} (h:IV I vs=some r):IV I' vs=some r:=by
 unfold IV at h ⊢;cases he:I vs with
 | none=>simp [he]at h
 | some x=>rw[hI vs _ he];simpa [he] using h
theorem Xo {b:Bool} {I I':List AV->Option (AV × AH)} (hI : ∀ vs r,I vs=some r->I' vs=some r) {vs:List AV} {r:AV} (h:KN b I vs=some r):KN b I' vs=some r:=by
 unfold KN at h ⊢;split at h
 ·split at h
  ·rename_i r1 r2 h1 h2
   rw[V1 hI h1,V1 hI h2];exact h
  ·cases h
 ·exact V1 hI h
theorem mZ : ∀ (n:Nat),(C4 L n).le (C4 L (n+1)):=by
 have dm : ∀ n,(∀ f vs o r,DJ L n f vs o=some r->DJ L (n+1) f vs o=some r) -> ∀ f vs r,HC L n f vs=some r->HC L (n+1) f vs=some r:=by
  intro n hI f vs r h;exact Xo (λ vs r h=>hI f vs _ r h) h
 intro n;induction n with
 | zero =>
  have : ∀ f vs o r,DJ L 0 f vs o=some r->DJ L 1 f vs o=some r:=λ f vs o r h=>by simp [DJ]at h
  exact ⟨dm 0 this,this,rfl⟩
 | succ n ih =>
  have : ∀ f vs o r,DJ L (n+1) f vs o=some r->DJ L (n+2) f vs o=some r:=λ f vs o r h=>by
   rw[U3]at h ⊢;cases hL:L f with
   | none=>simp [hL]at h
   | some fn =>
    simp only[hL]at h ⊢;split at h
    ·rename_i hp
     rw[if_pos hp];cases hr:run (C4 L n) n [.code fn.body] ⟨CR 0 vs,o⟩ with
     | none=>simp [hr]at h
     | some st =>
      rw[O3 ih (Nat.le_succ n) hr];simpa [hr] using h
    ·cases h
  exact ⟨dm (n+1) this,this,rfl⟩
theorem FO {n n':Nat} (h:n<=n'):(C4 L n).le (C4 L n'):=by
 induction h with
 | refl=>exact ⟨λ_ _ _ h=>h,λ_ _ _ _ h=>h,rfl⟩
 | step _ ih=>exact ⟨λ f vs r h=>(mZ _).1 f vs r (ih.1 f vs r h),λ f vs o r h=>(mZ _).2.1 f vs o r (ih.2.1 f vs o r h),rfl⟩
def Ev (L:Lib) (f:Nat) (vs:List AV) (r:AV):Prop := ∃ n,HC L n f vs=some r
def FX (L:Lib) (f:Nat) (vs:List AV) (r:AV):Prop := ∃ n,IV (λ vs=>DJ L n f vs AH.emp) vs=some r
def GT (L:Lib) (f:Nat) (vs:List AV) (o:AH) (r:AV) (o':AH):Prop := ∃ n,DJ L n f vs o=some (r,o')
def OJ (L:Lib) (f:Nat) (vs:List AV) (z:Nat) (es:List (List AV)):Prop := ∃ n,ON (DJ L n f vs AH.emp)=some (z,es)
theorem Ev.vq {f:Nat} {vs:List AV} {r r':AV} (h:Ev L f vs r) (h':Ev L f vs r'):r=r':=by
 obtain ⟨n,hn⟩:=h;obtain ⟨n',mv⟩:=h';have h1:=(FO (L:=L) (Nat.le_max_left n n')).1 f vs r hn;have h2:=(FO (L:=L) (Nat.le_max_right n n')).1 f vs r' mv;rw[h1]at h2;exact Option.some.inj h2
theorem GT.vq {f:Nat} {vs:List AV} {o:AH} {r r':AV} {o1 o2:AH} (h:GT L f vs o r o1) (h':GT L f vs o r' o2):r=r'/\o1=o2:=by
 obtain ⟨n,hn⟩:=h;obtain ⟨n',mv⟩:=h';have h1:=(FO (L:=L) (Nat.le_max_left n n')).2.1 f vs o _ hn;have h2:=(FO (L:=L) (Nat.le_max_right n n')).2.1 f vs o _ mv;rw[h1]at h2;simpa using h2
def AK (L:Lib) (k:List It) (st:St) (Q:St->Prop):Prop := ∃ n c j7,run (C4 L c) n k st=some j7/\Q j7
def AO (L:Lib) (l:List AI) (k:List It) (st:St) (Q:St->Prop):Prop := ∃ n c A6 j7,C9 (C4 L c) l st=some A6/\run (C4 L c) n k A6=some j7/\Q j7
variable {k:List It} {st:St} {Q:St->Prop}
theorem J8 {it:It} {k':List It} {A6:St} (h : ∀ (C:Cl) (n:Nat),run C (n+1) (it::k) st=run C n k' A6):AK L (it::k) st Q↔AK L k' A6 Q:=by
 constructor
 ·rintro ⟨n,c,j7,hr,hq⟩
  cases n with
  | zero=>simp [run]at hr
  | succ n=>exact ⟨n,c,j7,by rw[<-h];exact hr,hq⟩
 ·rintro ⟨n,c,j7,hr,hq⟩
  exact ⟨n+1,c,j7,by rw[h];exact hr,hq⟩
theorem vV:AK L [] st Q↔Q st:=by
 constructor
 ·rintro ⟨n,c,j7,hr,hq⟩
  cases n with
  | zero=>simp [run]at hr
  | succ n=>simp only[run,Option.some.injEq]at hr;exact hr ▸ hq
 ·exact λ h=>⟨1,0,st,rfl,h⟩
theorem vN {id:Nat}:AK L (.c9 id::k) st Q↔AK L k st Q:=J8 λ_ _=>rfl
theorem vR {ts ss:List Nat}:AK L (.jx ts ss::k) st Q↔AK L k ⟨w4 st.tm ts,st.own.drop ss⟩ Q:=J8 λ_ _=>rfl
theorem iE {c:BD}:AK L (.lp c::k) st Q↔AK L (.code c :: .lp c::k) st Q:=J8 λ_ _=>rfl
theorem wA:AK L (.code .skip::k) st Q↔AK L k st Q:=J8 λ_ _=>rfl
theorem vQ {c:BD} {ts ss:List Nat}:AK L (.code (.dr c ts ss)::k) st Q↔AK L (.code c :: .jx ts ss::k) st Q:=J8 λ_ _=>rfl
theorem vY {c:BD}:AK L (.code (.scope c)::k) st Q↔AK L (.code c::k) st Q:=J8 λ_ _=>rfl
theorem vZ {a b:BD}:AK L (.code (.seq a b)::k) st Q↔AK L (.code a :: .code b::k) st Q:=J8 λ_ _=>rfl
theorem vO {id:Nat} {c:BD}:AK L (.code (.block id c)::k) st Q↔AK L (.code c :: .c9 id::k) st Q:=J8 λ_ _=>rfl
theorem vT {c:BD}:AK L (.code (.loop c)::k) st Q↔AK L (.code c :: .lp c::k) st Q:=J8 λ_ _=>rfl
theorem vS {id:Nat} {k':List It} (h:FI id k=some k'):AK L (.code (.exit id)::k) st Q↔AK L k' st Q:=J8 λ C n=>by simp [run,h]
theorem vX:AK L (.code .ret::k) st Q↔Q st:=by
 constructor
 ·rintro ⟨n,c,j7,hr,hq⟩
  cases n with
  | zero=>simp [run]at hr
  | succ n=>simp only[run,Option.some.injEq]at hr;exact hr ▸ hq
 ·exact λ h=>⟨1,0,st,rfl,h⟩
theorem vP {x:AP} {a b:BD} {t:Bool} (h:st.ev x = .bool t):AK L (.code (.cond x a b)::k) st Q↔if t=true then AK L (.code a::k) st Q else AK L (.code b::k) st Q:=by
 cases t
 ·simpa using J8 (k' := .code b::k) (A6:=st) λ C n=>by simp [run,h]
 ·simpa using J8 (k' := .code a::k) (A6:=st) λ C n=>by simp [run,h]
theorem vW {l:List AI} {d:Bool}:AK L (.code (.ops l d)::k) st Q↔AO L l k st Q:=by
 constructor
 ·rintro ⟨n,c,j7,hr,hq⟩
  cases n with
  | zero=>simp [run]at hr
  | succ n =>
   simp only[run]at hr;split at hr
   ·rename_i A6 hs
    exact ⟨n,c,A6,j7,hs,hr,hq⟩
   ·cases hr
 ·rintro ⟨n,c,A6,j7,hs,hr,hq⟩
  exact ⟨n+1,c,j7,by simp [run,hs,hr],hq⟩
theorem wJ:AO L [] k st Q↔AK L k st Q:=by
 constructor
 ·rintro ⟨n,c,A6,j7,hs,hr,hq⟩
  simp only[C9,Option.some.injEq]at hs;exact ⟨n,c,j7,hs ▸ hr,hq⟩
 ·rintro ⟨n,c,j7,hr,hq⟩
  exact ⟨n,c,st,j7,rfl,hr,hq⟩
theorem wM {o:AI} {l:List AI} {A6:St} (h : ∀ C,CZ C o st=some A6):AO L (o::l) k st Q↔AO L l k A6 Q:=by
 constructor
 ·rintro ⟨n,c,BK,j7,hs,hr,hq⟩
  simp only[C9,h]at hs;exact ⟨n,c,BK,j7,hs,hr,hq⟩
 ·rintro ⟨n,c,BK,j7,hs,hr,hq⟩
  exact ⟨n,c,BK,j7,by simpa only[C9,h] using hs,hr,hq⟩
theorem wK {d:Option Nat} {op:DR} {g:Option (Nat × Bool)} {c4:List Nat} {l:List AI} (h:FJ st g=some false):AO L (⟨d,op,g,c4⟩::l) k st Q↔AO L l k (st.dst d (.g8 [])) Q :=
 wM λ C=>by simp [CZ,h]
theorem S4 (c:Nat):(C4 L c).num=L.num:=rfl
theorem wL {d:Option Nat} {op:DR} {g:Option (Nat × Bool)} {c4:List Nat} {l:List AI} {E:CG} (h:FJ st g=some true) (he : ∀ c,e8 (C4 L c) c4 st.ev st.own op=some E):AO L (⟨d,op,g,c4⟩::l) k st Q↔AO L l k (st.app d E) Q:=by
 have h : ∀ c,CZ (C4 L c) ⟨d,op,g,c4⟩ st=some (st.app d E):=λ c=>by simp [CZ,h,he]
 constructor
 ·rintro ⟨n,c,BK,j7,hs,hr,hq⟩
  simp only[C9,h]at hs;exact ⟨n,c,BK,j7,hs,hr,hq⟩
 ·rintro ⟨n,c,BK,j7,hs,hr,hq⟩
  exact ⟨n,c,BK,j7,by simpa only[C9,h] using hs,hr,hq⟩
theorem wB {d:Option Nat} {f:Nat} {xs:List AP} {g:Option (Nat × Bool)} {c4:List Nat} {l:List AI} {vs:List AV} {r:AV} (h:FJ st g=some true) (hv:(xs.map st.ev).mapM (CY (st.own.m5 c4) true)=some vs) (hr:Ev L f vs r) :
  AO L (⟨d,.call f xs,g,c4⟩::l) k st Q↔AO L l k (st.dst d r) Q:=by
 have j9 : ∀ c r',HC L c f vs=some r'->CZ (C4 L c) ⟨d,.call f xs,g,c4⟩ st=some (st.dst d r'):=λ c r' hc=>by
  have q6:(C4 L c).pure f vs=some r':=hc;simp [CZ,h,e8,hv,q6,St.app]
 constructor
 ·rintro ⟨n,c,BK,j7,hs,cj,hq⟩
  simp only[C9]at hs;cases hI:CZ (C4 L c) ⟨d,.call f xs,g,c4⟩ st with
  | none=>simp [hI]at hs
  | some A6 =>
   simp only[hI]at hs;cases hp:HC L c f vs with
   | none =>
    have q6:(C4 L c).pure f vs=none:=hp;simp [CZ,h,e8,hv,q6]at hI
   | some r' =>
    obtain rfl:r'=r:=Ev.vq ⟨c,hp⟩ hr;rw[j9 c r' hp]at hI;obtain rfl:=Option.some.inj hI;exact ⟨n,c,BK,j7,hs,cj,hq⟩
 ·rintro ⟨n,c,BK,j7,hs,cj,hq⟩
  obtain ⟨c',q6⟩:=hr;have l1:=FO (L:=L) (Nat.le_max_left c c');have l2:=FO (L:=L) (Nat.le_max_right c c');refine ⟨n,max c c',BK,j7,?_,O3 l1 (Nat.le_refl n) cj,hq⟩;simp only[C9];rw[j9 (max c c') r (l2.1 f vs r q6)];exact O6 l1 hs
theorem wE {d:Option Nat} {f:Nat} {x:AP} {xs:List AP} {g:Option (Nat × Bool)} {c4:List Nat} {l:List AI} {vs:List AV} {r:AV} (h:FJ st g=some true) (hx:st.ev x = .fn true f (L.num f) []) (hv:(xs.map st.ev).mapM (CY st.own true)=some vs) (hr:Ev L f vs r) :
  AO L (⟨d,.m6 x xs,g,c4⟩::l) k st Q↔AO L l k (st.dst d r) Q:=by
 have j9 : ∀ c r',HC L c f vs=some r'->CZ (C4 L c) ⟨d,.m6 x xs,g,c4⟩ st=some (st.dst d r'):=λ c r' hc=>by
  have q6:(C4 L c).pure f vs=some r':=hc;simp [CZ,h,e8,hx,S4,hv,q6,St.app]
 constructor
 ·rintro ⟨n,c,BK,j7,hs,cj,hq⟩
  simp only[C9]at hs;cases hI:CZ (C4 L c) ⟨d,.m6 x xs,g,c4⟩ st with
  | none=>simp [hI]at hs
  | some A6 =>
   simp only[hI]at hs;cases hp:HC L c f vs with
   | none =>
    have q6:(C4 L c).pure f vs=none:=hp;simp [CZ,h,e8,hx,S4,hv,q6]at hI
   | some r' =>
    obtain rfl:r'=r:=Ev.vq ⟨c,hp⟩ hr;rw[j9 c r' hp]at hI;obtain rfl:=Option.some.inj hI;exact ⟨n,c,BK,j7,hs,cj,hq⟩
 ·rintro ⟨n,c,BK,j7,hs,cj,hq⟩
  obtain ⟨c',q6⟩:=hr;have l1:=FO (L:=L) (Nat.le_max_left c c');have l2:=FO (L:=L) (Nat.le_max_right c c');refine ⟨n,max c c',BK,j7,?_,O3 l1 (Nat.le_refl n) cj,hq⟩;simp only[C9];rw[j9 (max c c') r (l2.1 f vs r q6)];exact O6 l1 hs
theorem wC {d:Option Nat} {f:Nat} {w:AV} {cs:List AV} {x:AP} {xs:List AP} {g:Option (Nat × Bool)} {c4:List Nat} {l:List AI} {vs:List AV} {r:AV} (h:FJ st g=some true) (hx:st.ev x = .fn true f (L.num f) (w::cs)) (hv:(AV.agg (w::cs)::xs.map st.ev).mapM (CY st.own true)=some vs) (hr:Ev L f vs r) :
  AO L (⟨d,.m6 x xs,g,c4⟩::l) k st Q↔AO L l k (st.dst d r) Q:=by
 have j9 : ∀ c r',HC L c f vs=some r'->CZ (C4 L c) ⟨d,.m6 x xs,g,c4⟩ st=some (st.dst d r'):=λ c r' hc=>by
  have q6:(C4 L c).pure f vs=some r':=hc;simp [CZ,h,e8,hx,S4,hv,q6,St.app]
 constructor
 ·rintro ⟨n,c,BK,j7,hs,cj,hq⟩
  simp only[C9]at hs;cases hI:CZ (C4 L c) ⟨d,.m6 x xs,g,c4⟩ st with
  | none=>simp [hI]at hs
  | some A6 =>
   simp only[hI]at hs;cases hp:HC L c f vs with
   | none =>
    have q6:(C4 L c).pure f vs=none:=hp;simp [CZ,h,e8,hx,S4,hv,q6]at hI
   | some r' =>
    obtain rfl:r'=r:=Ev.vq ⟨c,hp⟩ hr;rw[j9 c r' hp]at hI;obtain rfl:=Option.some.inj hI;exact ⟨n,c,BK,j7,hs,cj,hq⟩
 ·rintro ⟨n,c,BK,j7,hs,cj,hq⟩
  obtain ⟨c',q6⟩:=hr;have l1:=FO (L:=L) (Nat.le_max_left c c');have l2:=FO (L:=L) (Nat.le_max_right c c');refine ⟨n,max c c',BK,j7,?_,O3 l1 (Nat.le_refl n) cj,hq⟩;simp only[C9];rw[j9 (max c c') r (l2.1 f vs r q6)];exact O6 l1 hs
theorem wF {d:Option Nat} {f:Nat} {xs:List AP} {g:Option (Nat × Bool)} {c4:List Nat} {l:List AI} {r:AV} (h:FJ st g=some true) (hq:(xs.map st.ev).all dq=true) (hr:Ev L f ((xs.map st.ev).map ry) r) (du:IE r\/Q4 r) :
  AO L (⟨d,.l8 f xs,g,c4⟩::l) k st Q↔AO L l k (st.dst d (LM r)) Q:=by
 have j9 : ∀ c,HC L c f ((xs.map st.ev).map ry)=some r->CZ (C4 L c) ⟨d,.l8 f xs,g,c4⟩ st=some (st.dst d (LM r)):=λ c hc=>by
  have q6:(C4 L c).pure f ((xs.map st.ev).map ry)=some r:=hc;simp only[CZ,h,e8];rw[if_pos hq,q6];simp only[if_pos du,Option.map_some,St.app]
 constructor
 ·rintro ⟨n,c,BK,j7,hs,cj,zr⟩
  simp only[C9]at hs;cases hp:HC L c f ((xs.map st.ev).map ry) with
  | none =>
   have q6:(C4 L c).pure f ((xs.map st.ev).map ry)=none:=hp;simp only[CZ,h,e8]at hs;rw[if_pos hq,q6]at hs;simp at hs
  | some r' =>
   obtain rfl:r'=r:=Ev.vq ⟨c,hp⟩ hr;rw[j9 c hp]at hs;exact ⟨n,c,BK,j7,hs,cj,zr⟩
 ·rintro ⟨n,c,BK,j7,hs,cj,zr⟩
  obtain ⟨c',q6⟩:=hr;have l1:=FO (L:=L) (Nat.le_max_left c c');have l2:=FO (L:=L) (Nat.le_max_right c c');refine ⟨n,max c c',BK,j7,?_,O3 l1 (Nat.le_refl n) cj,zr⟩;simp only[C9];rw[j9 (max c c') (l2.1 f _ r q6)];exact O6 l1 hs
theorem wG {d:Option Nat} {s f:Nat} {xs:List AP} {g:Option (Nat × Bool)} {c4:List Nat} {l:List AI} {vs:List AV} {z:Nat} {es:List (List AV)} (h:FJ st g=some true) (hv:(xs.map st.ev).mapM (O5 (st.own.m5 c4) true)=some vs) (hr:OJ L f vs z es)
  (ha:AO L l k (st.app d (.new s ⟨z,es⟩ (λ t => .row s t z 0 es.length))) Q):AO L (⟨d,.o8 s f xs,g,c4⟩::l) k st Q:=by
 obtain ⟨n,c,BK,j7,hs,cj,hq⟩:=ha;obtain ⟨c',q6⟩:=hr;have l1:=FO (L:=L) (Nat.le_max_left c c');have l2:=FO (L:=L) (Nat.le_max_right c c');have pd:ON ((C4 L (max c c')).dm f vs AH.emp)=some (z,es):=jJ (l2.2.1 f vs AH.emp) q6;refine ⟨n,max c c',BK,j7,?_,O3 l1 (Nat.le_refl n) cj,hq⟩;simp only[C9];have:CZ (C4 L (max c c')) ⟨d,.o8 s f xs,g,c4⟩ st=some (st.app d (.new s ⟨z,es⟩ (λ t => .row s t z 0 es.length))):=by
  simp only[CZ,h,e8,hv,pd,Option.map_some]
 rw[this];exact O6 l1 hs
def iK (L:Lib) (s f:Nat) (vs:List AV) (q:CD) (r:AV) (q':CD):Prop := ∃ n,∀ o:AH,o s=q->DJ L n f vs o=some (r,o.put s q')
theorem wI {d:Option Nat} {s f:Nat} {xs:List AP} {g:Option (Nat × Bool)} {c4:List Nat} {l:List AI} {r:AV} {q':CD} (h:FJ st g=some true) (hr:iK L s f (xs.map st.ev) (st.own s) r q')
  (ha:AO L l k (st.app d (.rz s q' r)) Q):AO L (⟨d,.z7 s f xs,g,c4⟩::l) k st Q:=by
 obtain ⟨n,c,BK,j7,hs,cj,hq⟩:=ha;obtain ⟨c',q6⟩:=hr;have l1:=FO (L:=L) (Nat.le_max_left c c');have l2:=FO (L:=L) (Nat.le_max_right c c');have pd:W7 (C4 L (max c c')) f (xs.map st.ev) s (st.own s)=some (r,q'):=W8.2 λ o ho=>l2.2.1 f _ o _ (q6 o ho)
 refine ⟨n,max c c',BK,j7,?_,O3 l1 (Nat.le_refl n) cj,hq⟩;simp only[C9];have:CZ (C4 L (max c c')) ⟨d,.z7 s f xs,g,c4⟩ st=some (st.app d (.rz s q' r)):=by
  simp only[CZ,h,e8,pd,Option.map_some]
 rw[this];exact O6 l1 hs
theorem wD {d:Option Nat} {f:Nat} {xs:List AP} {g:Option (Nat × Bool)} {c4:List Nat} {l:List AI} {r:AV} {o':AH} (h:FJ st g=some true) (hr:GT L f (xs.map st.ev) st.own r o') :
  AO L (⟨d,.e9 f xs,g,c4⟩::l) k st Q↔AO L l k { (st.dst d r) with own:=o' } Q:=by
 have j9 : ∀ c r' o1,DJ L c f (xs.map st.ev) st.own=some (r',o1)->CZ (C4 L c) ⟨d,.e9 f xs,g,c4⟩ st=some { (st.dst d r') with own:=o1 }:=λ c r' o1 hc=>by
  have q6:(C4 L c).dm f (xs.map st.ev) st.own=some (r',o1):=hc;simp [CZ,h,e8,q6,St.app]
 constructor
 ·rintro ⟨n,c,BK,j7,hs,cj,hq⟩
  simp only[C9]at hs;cases hI:CZ (C4 L c) ⟨d,.e9 f xs,g,c4⟩ st with
  | none=>simp [hI]at hs
  | some A6 =>
   simp only[hI]at hs;cases hp:DJ L c f (xs.map st.ev) st.own with
   | none =>
    have q6:(C4 L c).dm f (xs.map st.ev) st.own=none:=hp;simp [CZ,h,e8,q6]at hI
   | some x =>
    obtain ⟨r',o1⟩:=x;obtain ⟨rfl,rfl⟩:=GT.vq ⟨c,hp⟩ hr;rw[j9 c r' o1 hp]at hI;obtain rfl:=Option.some.inj hI;exact ⟨n,c,BK,j7,hs,cj,hq⟩
 ·rintro ⟨n,c,BK,j7,hs,cj,hq⟩
  obtain ⟨c',q6⟩:=hr;have l1:=FO (L:=L) (Nat.le_max_left c c');have l2:=FO (L:=L) (Nat.le_max_right c c');refine ⟨n,max c c',BK,j7,?_,O3 l1 (Nat.le_refl n) cj,hq⟩;simp only[C9];rw[j9 (max c c') r o' (l2.2.1 f _ _ _ q6)];exact O6 l1 hs
theorem wH {d:Option Nat} {f:Nat} {cs:List AV} {x:AP} {xs:List AP} {g:Option (Nat × Bool)} {c4:List Nat} {l:List AI} {r:AV} {o':AH} (h:FJ st g=some true) (hx:st.ev x = .fn false f (L.num f) cs) (hr:GT L f (xs.map st.ev++cs) st.own r o') :
  AO L (⟨d,.m6 x xs,g,c4⟩::l) k st Q↔AO L l k { (st.dst d r) with own:=o' } Q:=by
 have j9 : ∀ c r' o1,DJ L c f (xs.map st.ev++cs) st.own=some (r',o1)->CZ (C4 L c) ⟨d,.m6 x xs,g,c4⟩ st=some { (st.dst d r') with own:=o1 }:=λ c r' o1 hc=>by
  have q6:(C4 L c).dm f (xs.map st.ev++cs) st.own=some (r',o1):=hc;simp [CZ,h,e8,hx,S4,q6,St.app]
 constructor
 ·rintro ⟨n,c,BK,j7,hs,cj,hq⟩
  simp only[C9]at hs;cases hI:CZ (C4 L c) ⟨d,.m6 x xs,g,c4⟩ st with
  | none=>simp [hI]at hs
  | some A6 =>
   simp only[hI]at hs;cases hp:DJ L c f (xs.map st.ev++cs) st.own with
   | none =>
    have q6:(C4 L c).dm f (xs.map st.ev++cs) st.own=none:=hp;simp [CZ,h,e8,hx,S4,q6]at hI
   | some x =>
    obtain ⟨r',o1⟩:=x;obtain ⟨rfl,rfl⟩:=GT.vq ⟨c,hp⟩ hr;rw[j9 c r' o1 hp]at hI;obtain rfl:=Option.some.inj hI;exact ⟨n,c,BK,j7,hs,cj,hq⟩
 ·rintro ⟨n,c,BK,j7,hs,cj,hq⟩
  obtain ⟨c',q6⟩:=hr;have l1:=FO (L:=L) (Nat.le_max_left c c');have l2:=FO (L:=L) (Nat.le_max_right c c');refine ⟨n,max c c',BK,j7,?_,O3 l1 (Nat.le_refl n) cj,hq⟩;simp only[C9];rw[j9 (max c c') r o' (l2.2.1 f _ _ _ q6)];exact O6 l1 hs
theorem vU {Q':St->Prop} (h:AK L k st Q) (hq : ∀ s,Q s->Q' s):AK L k st Q':=by
 obtain ⟨n,c,j7,hr,hh⟩:=h;exact ⟨n,c,j7,hr,hq _ hh⟩
theorem GT.intro {f:Nat} {fn:AFn} {vs:List AV} {o:AH} {r:AV} {o':AH} (hL:L f=some fn) (hp:vs.length=fn.x5) (h:AK L [.code fn.body] ⟨CR 0 vs,o⟩ (λ st=>(fn.res.mapM (E6 st)).map H5=some r/\st.own=o')):GT L f vs o r o':=by
 obtain ⟨n,c,j7,hr,h1,h2⟩:=h;refine ⟨max n c+1,?_⟩;rw[U3];simp only[hL,hp,if_true];rw[O3 (FO (L:=L) (Nat.le_max_right n c)) (Nat.le_max_left n c) hr];cases hm:fn.res.mapM (E6 j7) with
 | none=>rw[hm]at h1;cases h1
 | some rs =>
  rw[hm]at h1;simp only[Option.map_some,Option.some.injEq]at h1;simp [hm,h1,h2]
theorem FX.intro {f:Nat} {fn:AFn} {vs:List AV} {r:AV} (hL:L f=some fn) (hp:vs.length=fn.x5) (h:AK L [.code fn.body] ⟨CR 0 vs,AH.emp⟩ (λ st=>((fn.res.mapM (E6 st)).map H5).bind (QZ st.own false)=some r/\A4 r)):FX L f vs r:=by
 obtain ⟨n,c,j7,hr,h1,h2⟩:=h;cases hm:(fn.res.mapM (E6 j7)).map H5 with
 | none=>rw[hm]at h1;cases h1
 | some r0 =>
  rw[hm]at h1;simp only[Option.bind_some]at h1;obtain ⟨q,hq⟩:=GT.intro (o:=AH.emp) (r:=r0) (o':=j7.own) hL hp ⟨n,c,j7,hr,hm,rfl⟩;refine ⟨q,?_⟩;unfold IV;simp [hq,h1,h2]
theorem FX.ev {f:Nat} {fn:AFn} {vs:List AV} {r:AV} (hL:L f=some fn) (h:FX L f vs r) (hs:fn.mc=false:=by rfl):Ev L f vs r:=by
 obtain ⟨n,h⟩:=h;have hs:L.mc f=false:=by simp only[Lib.mc,hL,hs]
 exact ⟨n,by unfold HC KN;rw[hs];exact h⟩
theorem FX.cons {f:Nat} {q:Bool} {e:List AV} {es:List (List AV)} {vs:List AV} {r:AV} (h:FX L f (.sl q (e::es)::vs) r):Ev L f (.sl q (e::es)::vs) r:=by
 obtain ⟨n,h⟩:=h;refine ⟨n,?_⟩;unfold HC KN;split
 ·rename_i heq;simp at heq
 ·exact h
theorem FX.nil {f:Nat} {fn:AFn} {q:Bool} {vs:List AV} {r:AV} (hL:L f=some fn) (h1:FX L f (.x9 (.bool true)::vs) r) (h2:FX L f (.x9 (.bool false)::vs) r) (hs:fn.mc=true:=by rfl):Ev L f (.sl q []::vs) r:=by
 obtain ⟨n,h1⟩:=h1;obtain ⟨n',h2⟩:=h2;have hs:L.mc f=true:=by simp only[Lib.mc,hL,hs]
 have k1:=V1 (λ vs r h=>(FO (L:=L) (Nat.le_max_left n n')).2.1 f vs AH.emp r h) h1;have k2:=V1 (λ vs r h=>(FO (L:=L) (Nat.le_max_right n n')).2.1 f vs AH.emp r h) h2;refine ⟨max n n',?_⟩;unfold HC KN;rw[hs];simp only;have k1':IV (λ vs=>DJ L (max n n') f vs AH.emp) (.x9 (.bool true)::vs)=some r:=k1;have k2':IV (λ vs=>DJ L (max n n') f vs AH.emp) (.x9 (.bool false)::vs)=some r:=k2;rw[k1',k2'];simp
theorem Ev.intro {f:Nat} {fn:AFn} {vs:List AV} {r:AV} (hL:L f=some fn) (hp:vs.length=fn.x5) (h:AK L [.code fn.body] ⟨CR 0 vs,AH.emp⟩ (λ st=>((fn.res.mapM (E6 st)).map H5).bind (QZ st.own false)=some r/\A4 r)) (hs:fn.mc=false:=by rfl):Ev L f vs r :=
 (FX.intro hL hp h).ev hL hs
end
end Go.b7
namespace Go.b7
section
variable {L:Lib} {k:List It} {tm:Tm} {own:AH} {Q:St->Prop} {l:List AI} {c4:List Nat} {d:Nat}
theorem WK (i:Nat) (v:AV) (r:Tm) (j:Nat):g6 ((i,v)::r) j=if j=i then v else g6 r j:=rfl
theorem Agl (j:Nat):g6 [] j = .any:=rfl
theorem Agg (i:Nat) (v:AV) (r:Tm) (l:List Nat):w4 ((i,v)::r) l=if l.contains i then w4 r l else (i,v)::w4 r l:=rfl
theorem Agh (l:List Nat):w4 [] l=[]:=rfl
theorem Vr (i:Nat) (v:AV) (r:List AV):CR i (v::r)=(i,v)::CR (i+1) r:=rfl
end
end Go.b7

namespace Go.b7
section
variable {L:Lib} {k:List It} {tm:Tm} {own:AH} {st:St} {Q:St->Prop} {l:List AI} {c4:List Nat} {d:Nat} {dst:Option Nat}
section
variable {x y:AP} {kd:IntKind} {a b:Int}
end
def UM (fn:AFn) (r:AV) (st:St):Prop:=((fn.res.mapM (E6 st)).map H5).bind (QZ st.own false)=some r/\A4 r
theorem Ev.fwd {f:Nat} {fn:AFn} {vs:List AV} {r:AV} (hL:L f=some fn) (hp:vs.length=fn.x5) (h:AK L [.code fn.body] ⟨CR 0 vs,AH.emp⟩ (UM fn r)) (hs:fn.mc=false:=by rfl):Ev L f vs r:=Ev.intro hL hp h hs
theorem FX.fwd {f:Nat} {fn:AFn} {vs:List AV} {r:AV} (hL:L f=some fn) (hp:vs.length=fn.x5) (h:AK L [.code fn.body] ⟨CR 0 vs,AH.emp⟩ (UM fn r)):FX L f vs r:=FX.intro hL hp h
end
attribute [irreducible] UM
end Go.b7

namespace Go.b7
def pw (n:Int):Int:=2^n.toNat
theorem GF (n:Int):1<=pw n:=by
 have:0<pw n:=Int.pow_pos (by decide)
 omega
theorem JI {n m:Int} (h:n<=m):pw n<=pw m:=by
 unfold pw;have h':n.toNat<=m.toNat:=by omega
 have h2:=Nat.pow_le_pow_right (n:=2) (by decide) h';have h3:((2^n.toNat:Nat):Int)<=((2^m.toNat:Nat):Int):=by exact_mod_cast h2
 simpa using h3
theorem YT {n:Int} (h:n<=62):pw n<=4611686018427387904:=JI (m:=62) h
theorem AgG {a:Int} (h:0<=a) (h':a<=9223372036854775807):IntKind.i64.wrap a=a:=IntWalk.i64_in _ ⟨by omega,h'⟩
theorem AfO {k2:IntKind} {n:Int} (h:0<=n/\n<=62):DB .shl .i64 1 k2 n=some (.int .i64 (pw n)):=by
 have h1:=YT h.2;have h2:=GF n;have e:(1:Int)*2^(min n.toNat IntKind.i64.bits)=pw n:=by
  have:min n.toNat IntKind.i64.bits=n.toNat:=by simp only[IntKind.bits];omega
  rw[this,Int.one_mul];rfl
 simp only[DB];rw[if_neg (by omega),e,AgG (by omega) (by omega)]
theorem AfP {k2:IntKind} {a n:Int} (h:0<=n/\n<=63):DB .shr .i64 a k2 n=some (.int .i64 (a/pw n)):=by
 have h2:=GF n;have e:(2:Int)^(min n.toNat IntKind.i64.bits)=pw n:=by
  have:min n.toNat IntKind.i64.bits=n.toNat:=by simp only[IntKind.bits];omega
  rw[this];rfl
 simp only[DB];rw[if_neg (by omega),e,Int.fdiv_eq_ediv_of_nonneg _ (by omega)]
theorem uO {a m:Int} (hm:0<m):a.tmod m=if 0<=a\/a%m=0 then a%m else a%m-m:=by
 have h:=Int.tmod_eq_emod (a:=a) (b:=m);rw[h];have hd:m ∣ a↔a%m=0:=Int.dvd_iff_emod_eq_zero;by_cases h0:0<=a\/a%m=0
 ·rw[if_pos h0,if_pos (by rcases h0 with h0|h0;exact Or.inl h0;exact Or.inr (hd.2 h0))];omega
 ·rw[if_neg h0,if_neg (λ h=>h0 (h.imp id hd.1))]
  have:(m.natAbs:Int)=m:=by omega
  omega
theorem uK {a m:Int} (hm:0<m):a.tdiv m=if 0<=a\/a%m=0 then a/m else a/m+1:=by
 have h:=Int.tdiv_eq_ediv (a:=a) (b:=m);rw[h];have hd:m ∣ a↔a%m=0:=Int.dvd_iff_emod_eq_zero;by_cases h0:0<=a\/a%m=0
 ·rw[if_pos h0,if_pos (by rcases h0 with h0|h0;exact Or.inl h0;exact Or.inr (hd.2 h0))];omega
 ·rw[if_neg h0,if_neg (λ h=>h0 (h.imp id hd.1)),Int.sign_eq_one_of_pos hm]
theorem Qw {a m:Int} (hm:1<=m) (h : -9223372036854775808<=a/\a<=9223372036854775807) : -9223372036854775808<=a/m/\a/m<=9223372036854775807:=by
 constructor
 ·rw[Int.le_ediv_iff_mul_le (by omega)]
  have:=Int.mul_le_mul_of_nonpos_left (a := -9223372036854775808) (b:=m) (c:=1) (by omega) hm
  omega
 ·have:a/m<9223372036854775808:=by
   rw[Int.ediv_lt_iff_lt_mul (by omega)];have:=Int.mul_le_mul_of_nonneg_left (c:=9223372036854775808) (a:=1) (b:=m) hm (by omega)
   omega
  omega
section
variable {L:Lib} {k:List It} {tm:Tm} {own:AH} {Q:St->Prop} {l:List AI} {c4:List Nat} {d:Nat} {x y:AP} {a b n p:Int} {k2:IntKind}
end
end Go.b7

namespace Go.b7
theorem T7 (ts:List Nat) (j:Nat) : ∀ tm:Tm,g6 (w4 tm ts) j=if ts.contains j then .any else g6 tm j
 | []=>by simp [Agh,Agl]
 | (i,u)::r=>by
  rw[Agg];by_cases h:ts.contains i=true
  ·rw[if_pos h,T7 ts j r,WK]
   by_cases h2:j=i
   ·subst h2;rw[if_pos h,if_pos h]
   ·rw[if_neg h2]
  ·rw[if_neg h,WK,WK,T7 ts j r]
   by_cases h2:j=i
   ·subst h2;rw[if_pos rfl,if_pos rfl,if_neg h]
   ·rw[if_neg h2,if_neg h2]
def JS (j:Nat):List Nat->Bool
 | []=>false
 | i::r=>bif Nat.beq j i then true else JS j r
abbrev CQ (n:Int):List AV:=[.int .i64 n]
section
variable {L:Lib} {k:List It} {tm:Tm} {own:AH} {Q:St->Prop} {l:List AI} {c4:List Nat} {d:Nat} {x i:AP} {kd:IntKind} {a:Int} {q:Bool} {α:Type} {es:List α} {enc:α->List AV} {z:Nat}
end
end Go.b7

namespace Go.b7
inductive A7 where
 | bx (cs:List AV)
 | rw (z:Nat) (es:List (List AV))
 | bs (z:Nat) (es:List (List AV))
 | mx (rows:List (Option (Nat × List (List AV))))
 | hx (i:Nat) (v:AV) (rows:List (Option (Nat × List (List AV))))
 | vw (w:List Nat) (rows:List (Option (Nat × List (List AV))))
abbrev Mem:=List (Nat × Nat × A7)
def c7:Mem->Nat->Option (Nat × A7)
 | [],_=>none
 | (k,s,c)::r,j=>bif Nat.beq j k then some (s,c) else c7 r j
def c5 (M:Mem) (k t:Nat):Option A7:=match c7 M k with
 | none=>none
 | some (_,c)=>match t with
  | 0=>some c
  | i+1=>match c with
   | .mx rows=>match rows[i]? with
    | some (some (z,es))=>some (.rw z es)
    | _=>none
   | .hx _ _ rows=>match rows[i]? with
    | some (some (z,es))=>some (.rw z es)
    | _=>none
   | .vw _ rows=>match rows[i]? with
    | some (some (z,es))=>some (.rw z es)
    | _=>none
   | _=>none
def n7 (j:Nat):Mem->Mem
 | []=>[]
 | (k,s,c)::r=>bif Nat.beq j k then n7 j r else (k,s,c)::n7 j r
def tg:Tm->Nat->AV
 | [],_ => .any
 | (i,v)::r,j=>bif Nat.beq j i then v else tg r j
def bit (m i:Nat):Bool:=Nat.beq (Nat.land (Nat.shiftRight m i) 1) 1
def mask:Nat->List Nat->Nat
 | m,[]=>m
 | m,t::ts=>mask (Nat.lor m (Nat.shiftLeft 1 t)) ts
def se (m:Nat):Tm->Tm
 | []=>[]
 | (i,v)::r=>bif bit m i then se m r else (i,v)::se (Nat.lor m (Nat.shiftLeft 1 i)) r
def fN (n:Nat) (K:Nat->Prop):Prop:=match n with
 | 0=>K 0
 | k+1=>K (k+1)
def oo:AV->Bool
 | .int _ _=>true | .bool _=>true | .x9 _=>true | .sl _ _=>true | .nil=>true
 | _=>false
def D5:List AV->Bool
 | []=>true
 | v::r=>bif oo v then D5 r else false
def U0:List (List AV)->Bool
 | []=>true
 | v::r=>bif D5 v then U0 r else false
def N1 (s:Nat):AV->Bool
 | .row k _ _ _ _=>Nat.beq k s | .ptr k _ _ _=>Nat.beq k s
 | _=>false
def H6 (s:Nat):List AV->Bool
 | []=>false
 | v::r=>bif N1 s v then true else H6 s r
def JK (s:Nat):List (List AV)->Bool
 | []=>false
 | v::r=>bif H6 s v then true else JK s r
def P1 (s:Nat):AV->Bool
 | .agg cs=>H6 s cs
 | .fn _ _ _ cs=>H6 s cs
 | v=>N1 s v
def TY (s:Nat):List AV->Bool
 | []=>false
 | v::r=>bif P1 s v then true else TY s r
def N2 (s:Nat):AV->Bool
 | .g8 vs=>TY s vs
 | v=>P1 s v
def H7 (s:Nat):Tm->Bool
 | []=>false
 | (_,v)::r=>bif N2 s v then true else H7 s r
def HF (s:Nat):A7->Bool
 | .bx cs=>H6 s cs
 | .rw _ _=>false
 | .bs _ es=>JK s es
 | .mx _=>false
 | .hx _ _ _=>false
 | .vw _ _=>false
def G1 (s:Nat):Mem->Bool
 | []=>false
 | (k,_,c)::r=>bif Nat.beq s k then true else bif HF s c then true else G1 s r
def PL (s:Nat):AV->Bool
 | .row k t _ _ _=>bif Nat.beq k s then (match t with|0=>false|_+1=>true) else false
 | .ptr k t _ _=>bif Nat.beq k s then (match t with|0=>false|_+1=>true) else false
 | _=>false
def OP (s:Nat):List AV->Bool
 | []=>false
 | v::r=>bif PL s v then true else OP s r
def RF (s:Nat):AV->Bool
 | .agg cs=>OP s cs
 | .fn _ _ _ cs=>OP s cs
 | v=>PL s v
def S2 (s:Nat):List AV->Bool
 | []=>false
 | v::r=>bif RF s v then true else S2 s r
def QG (s:Nat):AV->Bool
 | .g8 vs=>S2 s vs
 | v=>RF s v
def OQ (s:Nat):Tm->Bool
 | []=>false
 | (_,v)::r=>bif QG s v then true else OQ s r
def S3 (s:Nat):List (List AV)->Bool
 | []=>false
 | v::r=>bif OP s v then true else S3 s r
def PM (s:Nat):A7->Bool
 | .bx cs=>OP s cs
 | .bs _ es=>S3 s es
 | _=>false
def KB (s:Nat):Mem->Bool
 | []=>false
 | (_,_,c)::r=>bif PM s c then true else KB s r
def used (k:Nat) (tm:Tm) (M:Mem):Bool:=bif G1 k M then true else H7 k tm
def YQ (tm:Tm) (M:Mem):List Nat->(Nat->Prop)->Prop
 | [],_=>False
 | k::r,K=>bif used k tm M then YQ tm M r K else K k
def GH (s:Nat) (tm:Tm) (M:Mem) (K:Nat->Prop):Prop:=YQ tm M [s,s+1000000,s+2000000,s+3000000] K
def fL:List AV->(List AV->Prop)->Prop
 | [],K=>K []
 | v::r,K=>fL r λ r'=>K (v::r')
def fV (v:AV) (K:AV->Prop):Prop:=match v with
 | .int k n=>K (.int k n) | .bool b=>K (.bool b) | .sl l es=>K (.sl l es) | .row s t z o n=>K (.row s t z o n)
 | .nil=>K .nil | .ptr s t i j=>K (.ptr s t i j) | .q8 cs=>K (.q8 cs) | .agg cs=>fL cs λ cs=>K (.agg cs)
 | .fn p f g cs=>fL cs λ cs=>K (.fn p f g cs)
 | .g8 vs=>fL vs λ vs=>K (.g8 vs) | .x9 c=>K (.x9 c) | .any=>False
def fC (v:AV) (K:List AV->Prop):Prop:=match v with
 | .agg cs=>fL cs K
 | .fn _ _ _ _=>False
 | .g8 _=>False
 | .any=>False
 | v=>fV v λ v=>K [v]
def fB (b:Bool) (K:Bool->Prop):Prop:=match b with
 | true=>K true
 | false=>K false
def fT:Tm->(Tm->Prop)->Prop
 | [],K=>K []
 | (i,v)::r,K=>fT r λ r'=>K ((i,v)::r')
def fM:Mem->(Mem->Prop)->Prop
 | [],K=>K []
 | (k,s,c)::r,K=>fM r λ r'=>K ((k,s,c)::r')
def fF (v:AV) (K:AV->Prop):Prop:=match v with
 | .int k n=>K (.int k n) | .bool b=>K (.bool b) | .sl l es=>K (.sl l es) | .row s t z o n=>K (.row s t z o n)
 | .nil=>K .nil | .ptr s t i j=>K (.ptr s t i j) | .x9 c=>K (.x9 c)|_=>False
def f2 (v:AV) (K:AV->Prop):Prop:=match v with
 | .int k n=>K (.int k n) | .bool b=>K (.bool b) | .sl l es=>K (.sl l es) | .row s t z o n=>K (.row s t z o n)
 | .nil=>K .nil | .ptr s t i j=>K (.ptr s t i j) | .x9 c=>K (.x9 c) | .agg cs=>fL cs λ cs=>K (.agg cs) | .fn p f g cs=>fL cs λ cs=>K (.fn p f g cs)|_=>False
def my (agg:Bool) (ds:List AV) (K:AV->Prop):Prop:=match agg with
 | true=>K (.agg ds)
 | false=>match ds with
  | [c]=>fF c K
  | _=>False
def AF (p q A B:Prop):Prop:=(p->A)/\(q->B)
def AM (p A:Prop):Prop:=p/\A
def AC (op:BinOp) (k:IntKind) (a:Int) (k':IntKind) (b:Int) (K:AV->Prop):Prop := ∃ v,DB op k a k' b=some v/\K v
def BT (op:UnOp) (k:IntKind) (n:Int) (K:AV->Prop):Prop := ∃ v,Q1 op (.int k n)=some v/\K v
structure A0 (k:IntKind) (n:Int) (K:Int->Prop):Prop where h:K (k.wrap n)
def AQ (es:List (List AV)) (a:Int) (z:Nat) (K:List AV->Prop):Prop:=0<=a /\ ∃ cs,es[a.toNat]? = some cs/\cs.length=z/\K cs
def A5 (es:List (List AV)) (i j n:Nat) (K:List AV->Prop):Prop := ∃ cs ds,es[i]? = some cs/\part cs j n=some ds/\K ds
def AZ (es:List (List AV)) (i j:Nat) (vs:List AV) (K:List (List AV)->Prop):Prop := ∃ cs,es[i]? = some cs/\j+vs.length<=cs.length/\K (es.set i (splice cs j vs))
def BG (a b:Int) (bytes:Nat) (zero:List AV) (K:List (List AV)->Nat->Prop):Prop:=(0<=a/\a<=b/\b*bytes<=EZ/\b<=9223372036854775807)/\K (List.replicate a.toNat zero) a.toNat
structure AX (es:List (List AV)) (K:Nat->Prop):Prop where h:K es.length
def A9 (es:List (List AV)) (len:Nat) (ys:List (List AV)) (z bytes:Nat) (K:List (List AV)->Nat->Prop):Prop :=
 len<=es.length/\(∀ e∈ys,e.length=z)/\(len+ys.length)*bytes<=EZ/\len+ys.length<=9223372036854775807/\K (es.take len++ys) (len+ys.length)
def BS (ys:List (List AV)) (z bytes:Nat) (K:List (List AV)->Nat->Prop):Prop :=
 (∀ e∈ys,e.length=z)/\ys.length*bytes<=EZ/\ys.length<=9223372036854775807/\K ys ys.length
def CN (es:List (List AV)) (off len:Nat) (ys:List (List AV)) (z:Nat) (K:List (List AV)->Nat->Prop):Prop :=
 off+len<=es.length/\(∀ e∈ys,e.length=z)/\K (es.take off++ys.take len++es.drop (off+min ys.length len)) (min ys.length len)
def BH (es:List (List AV)) (off len:Nat) (K:List (List AV)->Prop):Prop:=off+len<=es.length/\K ((es.drop off).take len)
def FA:List AV->Bool
 | []=>true
 | v::r=>match v with
  | .int _ _=>FA r | .bool _=>FA r | .x9 _=>FA r | .sl _ _=>FA r
  | _=>false
def nl:AV->AV
 | .nil => .sl false []
 | v=>v
def L6:List AV->Bool
 | []=>true
 | v::r=>match v with
  | .int _ _=>L6 r | .bool _=>L6 r | .x9 _=>L6 r | .sl _ _=>L6 r | .nil=>L6 r
  | _=>false
def AU (es:List (List AV)) (off len:Nat) (K:List (List AV)->Prop):Prop:=off+len<=es.length/\(∀ e∈es,L6 e=true)/\K (((es.drop off).take len).map λ e=>e.map nl)
def B1 (rows:List (Option (Nat × List (List AV)))) (i:Nat) (K:Option (Nat × List (List AV))->Prop):Prop := ∃ r,rows[i]? = some r/\K r
def BQ (rows:List (Option (Nat × List (List AV)))) (i:Nat) (K:Nat->List (List AV)->Prop):Prop := ∃ z es,rows[i]? = some (some (z,es))/\K z es
def B9 (rows:List (Option (Nat × List (List AV)))) (i z:Nat) (es:List (List AV)) (K:List (Option (Nat × List (List AV)))->Prop):Prop:=i<rows.length/\K (rows.set i (some (z,es)))
def CM (rows:List (Option (Nat × List (List AV)))) (i z:Nat) (es es':List (List AV)) (K:List (Option (Nat × List (List AV)))->Prop):Prop:=es'.length=es.length/\K (rows.set i (some (z,es')))
def CH (a b:Int) (bytes:Nat) (K:List (Option (Nat × List (List AV)))->Nat->Prop):Prop:=(0<=a/\a<=b/\b*bytes<=EZ/\b<=9223372036854775807)/\K (List.replicate a.toNat none) a.toNat
def BF (rows:List (Option (Nat × List (List AV)))) (len:Nat) (r:Option (Nat × List (List AV))) (bytes:Nat) (K:List (Option (Nat × List (List AV)))->Nat->Prop):Prop :=
 len=rows.length/\(len+1)*bytes<=EZ/\len+1<=9223372036854775807/\K (rows++[r]) (len+1)
def O2 (q:Bool):List (Option (Nat × List (List AV)))->List (List AV)
 | []=>[]
 | none::r=>[.sl false []]::O2 q r
 | some (_,es)::r=>[.sl q es]::O2 q r
def BV (q:Bool) (rows:List (Option (Nat × List (List AV)))) (off len:Nat) (K:List (List AV)->Prop):Prop :=
 off=0/\len=rows.length/\(∀ z es,some (z,es)∈rows -> ∀ e∈es,FA e=true)/\K (O2 q rows)
def BI (lo hi:Option Int) (len:Nat) (K:Nat->Nat->Prop):Prop :=
 ∃ a h:Nat,(match lo with|none=>a=0|some x=>0<=x/\a=x.toNat)/\(match hi with|none=>h=len|some x=>0<=x/\x<=len/\h=x.toNat)/\a<=h/\K a h
def BR (z:Nat) (es:List (List AV)) (lo hi:Option Int) (K:List (List AV)->Prop):Prop:=(∀ e∈es,e.length=z)/\BI lo hi es.length λ a h=>K ((es.take h).drop a)
def AB (L:Lib) (f:Nat) (vs:List AV) (K:AV->Prop):Prop := ∃ r,Ev L f vs r/\K r
def wN (n:Nat) (cs ds:List AV) (K:Bool->Prop):Prop := ∃ a b,dH cs=some a/\dH ds=some b/\a.length=n/\b.length=n/\K (decide (a=b))
def X6:List AV->Bool
 | []=>true
 | .int _ _::r=>X6 r
 | _=>false
def B5 (L:Lib) (f:Nat) (vs:List AV) (K:Nat->List (List AV)->Nat->Prop):Prop := ∃ z es n,OJ L f vs z es/\n=es.length/\K z es n
abbrev FG:=Nat->Nat->Nat × Nat
def A6 (σ:FG):AV->AV
 | .row k t z o n => .row (σ k t).1 (σ k t).2 z o n
 | .ptr k t i j => .ptr (σ k t).1 (σ k t).2 i j
 | v=>v
def BK (σ:FG):AV->AV
 | .agg cs => .agg (cs.map (A6 σ))
 | .fn p f g cs => .fn p f g (cs.map (A6 σ))
 | v=>A6 σ v
def A8 (σ:FG):AV->AV
 | .g8 vs => .g8 (vs.map (BK σ))
 | v=>BK σ v
def B4 (σ:FG) (k:Nat):Nat->List (Option (Nat × List (List AV)))->List (List AV)
 | _,[]=>[]
 | i,none::r=>[.nil]::B4 σ k (i+1) r
 | i,some (z,es)::r=>[.row (σ k (i+1)).1 (σ k (i+1)).2 z 0 es.length]::B4 σ k (i+1) r
def A7.c9 (σ:FG) (k:Nat):A7->DY
 | .bx cs=>⟨cs.length,[cs.map (A6 σ)]⟩
 | .rw z es=>⟨z,es⟩
 | .bs z es=>⟨z,es.map λ cs=>cs.map (A6 σ)⟩
 | .mx rows=>⟨1,B4 σ k 0 rows⟩
 | .hx i v rows=>⟨1,(B4 σ k 0 rows).set i [v]⟩
 | .vw w rows=>⟨1,w.map λ t=>((B4 σ k 0 rows)[t]?).getD []⟩
def A7.jt:A7->Bool
 | .bx _=>false
 | _=>true
def E4 (s:Nat):Bool:=Nat.blt s 900000
structure IG (σ:FG) (own:AH) (M:Mem):Prop where
 site : ∀ k s c,c7 M k=some (s,c)->(σ k 0).1=s
 c9 : ∀ k t c,c5 M k t=some c->(own (σ k t).1).c9 (σ k t).2=some (c.c9 σ k)
 old : ∀ k t c,c5 M k t=some c->(σ k t).2<(own (σ k t).1).g7
 inj : ∀ k t k' t' c c',c5 M k t=some c->c5 M k' t'=some c'->σ k t=σ k' t'->k=k'/\t=t'
 low : ∀ k t c,c5 M k t=some c->c.jt=true->E4 (σ k t).1=true
structure RX (σ:FG) (tm:Tm) (M:Mem) (st:St):Prop where
 tm : ∀ j,tg tm j = .any\/g6 st.tm j=A8 σ (tg tm j)
 sat:IG σ st.own M
def SQ (Q:Tm->Mem->Prop) (st:St):Prop := ∃ σ tm M,RX σ tm M st/\Q tm M
def AA (L:Lib) (k:List It) (tm:Tm) (M:Mem) (Q:Tm->Mem->Prop):Prop := ∀ σ st,RX σ tm M st->AK L k st (SQ Q)
def iF (L:Lib) (l:List AI) (k:List It) (tm:Tm) (M:Mem) (Q:Tm->Mem->Prop):Prop := ∀ σ st,RX σ tm M st->AO L l k st (SQ Q)
def A1 (L:Lib) (f:Nat) (vs:List AV) (tm:Tm) (M:Mem) (K:AV->Mem->Prop):Prop :=
 ∀ σ own,IG σ own M -> ∃ r l6 σ' M',GT L f (vs.map (A8 σ)) own (A8 σ' r) l6/\IG σ' l6 M'/\(∀ j,A8 σ' (tg tm j)=A8 σ (tg tm j))/\K r M'
def wT (L:Lib) (s f key:Nat) (rest:List AV) (M:Mem) (K:AV->Mem->Prop):Prop :=
 ∃ (cells cq:List AV) (kd:IntKind) (n:Int),c7 M key=some (s,.bx cells)/\D5 cells=true/\D5 cq=true/\(∀ (t:Nat) (q:CD),q.c9 t=some ⟨cells.length,[cells]⟩->iK L s f (.ptr s t 0 0::rest) q (.int kd n) (q.n9 t (some ⟨cq.length,[cq]⟩)))/\K (.int kd n) ((key,s,.bx cq)::M)
def cv:AV->AV
 | .agg cs=>bif D5 cs then .agg cs else .any
 | .g8 [] => .g8 []
 | .q8 _ => .any
 | .fn p f g [] => .fn p f g []
 | v=>bif oo v then v else .any
def ex (tm:Tm):AP->AV
 | .t n=>tg tm n
 | .c v=>cv v
def kq (k k':IntKind):Bool:=decide (k=k')
def aI (op:BinOp) (k:IntKind) (a:Int) (k':IntKind) (b:Int) (K:AV->Prop):Prop:=match op with
 | .lss=>bif kq k k' then AF (a<b) (b<=a) (K (.bool true)) (K (.bool false)) else False
 | .leq=>bif kq k k' then AF (a<=b) (b<a) (K (.bool true)) (K (.bool false)) else False
 | .gtr=>bif kq k k' then AF (b<a) (a<=b) (K (.bool true)) (K (.bool false)) else False
 | .geq=>bif kq k k' then AF (b<=a) (a<b) (K (.bool true)) (K (.bool false)) else False
 | .eql=>bif kq k k' then AF (a=b) (a≠b) (K (.bool true)) (K (.bool false)) else False
 | .neq=>bif kq k k' then AF (a≠b) (a=b) (K (.bool true)) (K (.bool false)) else False
 | op=>AC op k a k' b K
noncomputable def R1 (mx:Bool) (k:IntKind) (K:AV->Prop) (a:Int) (l:List AV):Prop :=
 List.rec (motive:=λ_=>Int->Prop) (λ a=>K (.int k a)) (λ v _ ih a=>match v with
  | .int _ b=>bif mx then AF (a<b) (b<=a) (ih b) (ih a) else AF (b<a) (a<=b) (ih b) (ih a)
  | _=>False) l a
def ub:List AV->Nat->AV
 | [],_ => .any
 | v::_,0=>v
 | _::r,n+1=>ub r n
def QW (s:Nat):List Nat->Bool
 | []=>true
 | c4 => !(JS s c4)
def R5:List Nat->Bool
 | []=>true
 | s::r=>bif E4 s then false else R5 r
def fU (M:Mem) (k t:Nat) (K:Nat->List (List AV)->Prop):Prop:=match c7 M k with
 | some (_,c)=>match t with
  | 0=>match c with
   | .rw z es=>K z es
   | _=>False
  | i+1=>match c with
   | .mx rows=>BQ rows i K
   | _=>False
 | none=>False
def XT (M:Mem) (v:AV) (K:List (List AV)->Prop):Prop:=match v with
 | .sl _ es=>K es
 | .nil=>K []
 | .x9 (.bool _)=>K []
 | .row key t z off len=>fU M key t λ z' es=>bif Nat.beq z z' then BH es off len K else False
 | _=>False
def SI (q:Bool) (M:Mem) (c4:List Nat) (v:AV) (K:AV->Prop):Prop:=match v with
 | .int k n=>K (.int k n)
 | .bool b=>K (.bool b)
 | .sl l es=>K (.sl l es)
 | .x9 c=>K (.x9 c)
 | .nil=>K (.sl false [])
 | .row key t z off len=>match c7 M key with
  | some (s,.rw z' es)=>match t with
   | 0=>bif Nat.beq z z' then bif QW s c4 then AU es off len λ es=>K (.sl q es) else False else False
   | _+1=>False
  | some (_,.mx rows)=>match t with
   | 0=>False
   | i+1=>match c4 with
    | []=>BQ rows i λ z' es=>bif Nat.beq z z' then AU es off len λ es=>K (.sl q es) else False
    | b::r=>bif R5 (b::r) then BQ rows i λ z' es=>bif Nat.beq z z' then AU es off len λ es=>K (.sl q es) else False else False
  | _=>False
 | _=>False
noncomputable def Y8 (q:Bool) (M:Mem) (c4:List Nat) (l:List AV):(List AV->Prop)->Prop :=
 List.rec (motive:=λ_=>(List AV->Prop)->Prop) (λ K=>K []) (λ v _ ih K=>SI q M c4 v λ v'=>ih λ r'=>K (v'::r')) l
noncomputable def gG (q:Bool) (M:Mem) (c4:List Nat) (l:List (List AV)):(List (List AV)->Prop)->Prop :=
 List.rec (motive:=λ_=>(List (List AV)->Prop)->Prop) (λ K=>K []) (λ v _ ih K=>Y8 q M c4 v λ v'=>ih λ r'=>K (v'::r')) l
noncomputable def WA (q:Bool) (M:Mem) (c4:List Nat) (v:AV) (K:AV->Prop):Prop:=match v with
 | .row key 0 z off len=>match c7 M key with
  | some (s,.bs z' es)=>bif Nat.beq z z' then bif QW s c4 then bif Nat.beq off 0 then AM (len=es.length) (gG q M c4 es λ es=>K (.sl q es)) else False else False else False
  | some (_,.mx rows)=>match c4 with
   | []=>bif Nat.beq z 1 then BV q rows off len λ es=>K (.sl q es) else False
   | _::_=>False
  | _=>SI q M c4 (.row key 0 z off len) K
 | v=>SI q M c4 v K
noncomputable def gH (q:Bool) (M:Mem) (c4:List Nat) (l:List AV):(List AV->Prop)->Prop :=
 List.rec (motive:=λ_=>(List AV->Prop)->Prop) (λ K=>K []) (λ v _ ih K=>WA q M c4 v λ v'=>ih λ r'=>K (v'::r')) l
noncomputable def P3 (q:Bool) (M:Mem) (c4:List Nat) (v:AV) (K:AV->Prop):Prop:=match v with
 | .agg cs=>gH q M c4 cs λ cs=>K (.agg cs)
 | v=>WA q M c4 v K
noncomputable def WB (tm:Tm) (M:Mem) (c4:List Nat) (l:List AP):(List AV->Prop)->Prop :=
 List.rec (motive:=λ_=>(List AV->Prop)->Prop) (λ K=>K []) (λ x _ ih K=>P3 true M c4 (ex tm x) λ v=>ih λ vs=>K (v::vs)) l
noncomputable def Y9 (M:Mem) (c4:List Nat) (v:AV) (K:AV->Prop):Prop:=match v with
 | .nil=>K .nil
 | v=>P3 true M c4 v K
noncomputable def gI (tm:Tm) (M:Mem) (c4:List Nat) (l:List AP):(List AV->Prop)->Prop :=
 List.rec (motive:=λ_=>(List AV->Prop)->Prop) (λ K=>K []) (λ x _ ih K=>Y9 M c4 (ex tm x) λ v=>ih λ vs=>K (v::vs)) l
noncomputable def TF (tm:Tm) (l:List AP):(List AV->Prop)->Prop :=
 List.rec (motive:=λ_=>(List AV->Prop)->Prop) (λ K=>K []) (λ x _ ih K=>fV (ex tm x) λ v=>ih λ vs=>K (v::vs)) l
def YJ (tm:Tm) (o:Option AP) (K:Option Int->Prop):Prop:=match o with
 | none=>K none
 | some x=>match ex tm x with
  | .int _ n=>K (some n)
  | _=>False
def VP (es:List (List AV)) (K:Nat->Prop):Prop:=match es with
 | []=>K 0
 | [_]=>K 1
 | [_,_]=>K 2
 | [_,_,_]=>K 3
 | [_,_,_,_]=>K 4
 | es=>K es.length
noncomputable def aL (tm:Tm) (z:Nat) (l:List AP):(List (List AV)->Prop)->Prop :=
 List.rec (motive:=λ_=>(List (List AV)->Prop)->Prop) (λ K=>K []) (λ x _ ih K=>fC (ex tm x) λ cs=>bif Nat.beq cs.length z then ih λ es=>K (cs::es) else False) l
noncomputable def cQ (tm:Tm) (ps:List (Nat × Nat × AP)):List AV->(List AV->Prop)->Prop :=
 List.rec (motive:=λ_=>List AV->(List AV->Prop)->Prop) (λ cells K=>K cells) (λ p _ ih cells K=>fC (ex tm p.2.2) λ vs=>bif Nat.beq vs.length p.2.1 then bif Nat.ble (p.1+p.2.1) cells.length then fL (splice cells p.1 vs) λ cells=>ih cells K else False else False) ps
def QK (tm:Tm):List AP->List AV
 | []=>[]
 | x::r=>ex tm x::QK tm r
def RB (tb:List Nat) (n:Int) (K:Nat->Prop):Prop:=0<=n /\ ∃ v,tb[n.toNat]? = some v/\K v
noncomputable def eG (tm:Tm) (l:List AP):(List AV->Prop)->Prop :=
 List.rec (motive:=λ_=>(List AV->Prop)->Prop) (λ K=>K []) (λ x _ ih K=>fF (ex tm x) λ v=>ih λ cs=>K (v::cs)) l
def eK:AV->Bool
 | .agg _=>false | .fn _ _ _ _=>false | .g8 _=>false | .any=>false
 | _=>true
def VX:List AV->Bool
 | []=>true
 | v::r=>bif eK v then VX r else false
def RC (M:Mem) (v:AV):Option (Nat × Option (Nat × Nat × Nat)):=match v with
 | .row ky 0 1 0 1=>match c7 M ky with
  | some (_,.bs 1 [[.row k2 0 z 0 n]])=>some (ky,some (k2,z,n))
  | some (_,.rw 1 [[.nil]])=>some (ky,none)
  | _=>none
 | _=>none
def VO (z:Nat):List (List AV)->Bool
 | []=>true
 | e::r=>bif Nat.beq e.length z then VO z r else false
def aF (tm:Tm) (M:Mem) (s z bytes:Nat) (x y:AP) (K:AV->Mem->Prop):Prop:=match ex tm y with
 | .row ky 0 zy 0 ny=>match c7 M ky with
  | some (_,.bs z2 fy)=>bif Nat.beq zy z then bif Nat.beq z2 z then bif Nat.beq ny fy.length then bif VO z fy then (match ex tm x with
   | .nil=>bif E4 s then VP fy λ n=>AM (n*bytes<=140737488355328/\n<=9223372036854775807) (GH s tm M λ k=>K (.row k 0 z 0 n) ((k,s,.bs z fy)::M)) else False
   | .row kx 0 zx 0 len=>bif Nat.beq zx z then (match c7 M kx with
    | some (s',.bs z1 qy)=>bif Nat.beq z1 z then bif Nat.beq len qy.length then fM (n7 kx M) λ M'=>VP (qy++fy) λ n=>AM (n*bytes<=140737488355328/\n<=9223372036854775807) (GH s tm M λ k=>K (.row k 0 z 0 n) ((k,s',.bs z (qy++fy))::M')) else False else False
    | _=>False) else False
   | _=>False) else False else False else False else False
  | _=>False
 | _=>False
def gT (tm:Tm) (M:Mem) (K:AV->Mem->Prop) (n:Nat) (x v:AP):Prop:=match ex tm x with
 | .ptr key t i j=>fC (ex tm v) λ vs=>bif Nat.beq vs.length n then (match c7 M key with
  | some (s,c)=>match t with
   | 0=>match c with
    | .bx cs=>bif Nat.beq i 0 then bif Nat.ble (j+vs.length) cs.length then fL (splice cs j vs) λ bg=>K (.g8 []) ((key,s,.bx bg)::M) else False else False
    | .rw z es=>bif D5 vs then AZ es i j vs λ es'=>K (.g8 []) ((key,s,.rw z es')::M) else False
    | .bs _ _=>False
    | .mx rows=>match vs with
     | [.row u9 0 z 0 m]=>bif Nat.beq key u9 then False else bif OQ key tm then False else bif KB key M then False else bif Nat.beq j 0 then (match c7 M u9 with
      | some (_,.rw z' es)=>bif Nat.beq z z' then fM (n7 u9 M) λ M'=>AM (m=es.length) (B9 rows i z es λ bu=>K (.g8 []) ((key,s,.mx bu)::M')) else False
      | _=>False) else False
     | [.row u9 (t2+1) z 0 m]=>bif Nat.beq key u9 then bif Nat.beq j 0 then BQ rows t2 λ z' es=>bif Nat.beq z z' then AM (m=es.length/\i<rows.length) (K (.g8 []) ((key,s,.vw ((List.range rows.length).set i t2) rows)::M)) else False else False else False
     | _=>False
    | .hx i0 _ rows=>match vs with
     | [.row u9 0 z 0 m]=>bif Nat.beq key u9 then False else bif OQ key tm then False else bif KB key M then False else bif Nat.beq j 0 then (match c7 M u9 with
      | some (_,.rw z' es)=>bif Nat.beq z z' then fM (n7 u9 M) λ M'=>AM (i=i0/\m=es.length) (B9 rows i z es λ bu=>K (.g8 []) ((key,s,.mx bu)::M')) else False
      | _=>False) else False
     | _=>False
    | .vw w rows=>match vs with
     | [.row u9 (t2+1) z 0 m]=>bif Nat.beq key u9 then bif Nat.beq j 0 then BQ rows t2 λ z' es=>bif Nat.beq z z' then AM (m=es.length/\i<w.length /\ ∀ t∈w,t<rows.length) (K (.g8 []) ((key,s,.vw (w.set i t2) rows)::M)) else False else False else False
     | _=>False
   | i'+1=>match c with
    | .mx rows=>bif D5 vs then BQ rows i' λ z es=>AZ es i j vs λ es'=>CM rows i' z es es' λ bu=>K (.g8 []) ((key,s,.mx bu)::M) else False
    | _=>False
  | none=>False) else False
 | _=>False
def BB (r:AV) (K:AV->Prop):Prop:=(IE r\/Q4 r)/\K (LM r)
noncomputable def XE (L:Lib) (tm:Tm) (M:Mem) (c4:List Nat) (K:AV->Mem->Prop):DR->Prop
 | .a8 x=>fV (ex tm x) λ v=>K v M
 | .x8 s z=>bif E4 s then GH s tm M λ k=>K (.row k 0 z 0 0) ((k,s,.rw z [])::M) else False
 | .pick c a b=>match ex tm c with
  | .bool true=>fV (ex tm a) λ v=>K v M
  | .bool false=>fV (ex tm b) λ v=>K v M
  | _=>False
 | .bin op x y=>match ex tm x,ex tm y with
  | .int k a,.int k' b=>aI op k a k' b λ v=>K v M
  | _,_=>False
 | .beq ne x y=>match ex tm x,ex tm y with
  | .bool a,.bool b=>fB (bif ne then !(a == b) else a == b) λ c=>K (.bool c) M
  | _,_=>False
 | .un op x=>match ex tm x with
  | .int k n=>BT op k n λ v=>K v M
  | .bool b=>match op with
   | .not=>fB (!b) λ c=>K (.bool c) M
   | _=>False
  | _=>False
 | .conv k x=>match ex tm x with
  | .int _ n=>A0 k n λ v=>K (.int k v) M
  | _=>False
 | .box s x=>fC (ex tm x) λ cs=>GH s tm M λ k=>K (.ptr k 0 0 0) ((k,s,.bx cs)::M)
 | .alloc s zero=>bif D5 zero then (GH s tm M λ k=>K (.ptr k 0 0 0) ((k,s,.bx zero)::M)) else False
 | .build zero parts=>bif D5 zero then cQ tm parts zero λ cs=>K (.agg cs) M else False
 | .b8 s z parts=>bif E4 s then aL tm z parts λ es=>VP es λ n=>GH s tm M λ k=>bif U0 es then K (.row k 0 z 0 n) ((k,s,.rw z es)::M) else K (.row k 0 z 0 n) ((k,s,.bs z es)::M) else False
 | .a5 x off=>match ex tm x with
  | .ptr key t i j=>K (.ptr key t i (j+off)) M
  | .q8 cs=>fL (cs.drop off) λ cs=>K (.q8 cs) M
  | _=>False
 | .jy x off n agg=>match ex tm x with
  | .agg cs=>match part cs off n with
   | some ds=>fL ds λ ds=>my agg ds λ v=>K v M
   | none=>False
  | _=>False
 | .a7 arr z x i=>match ex tm i with
  | .int _ n=>match arr,ex tm x with
   | some len,.ptr key t i' j=>AM (0<=n/\n<(len:Int)) (K (.ptr key t i' (j+n.toNat*z)) M)
   | some len,.q8 cs=>AM (0<=n/\n<(len:Int)) (fL (cs.drop (n.toNat*z)) λ cs=>K (.q8 cs) M)
   | none,.row key t z' off len=>bif Nat.beq z' z then AM (0<=n/\n<(len:Int)) (K (.ptr key t (off+n.toNat) 0) M) else False
   | none,.sl _ es=>AQ es n z λ cs=>K (.q8 cs) M
   | _,_=>False
  | _=>False
 | .ld agg n x=>match ex tm x with
  | .ptr key t i j=>match c7 M key with
   | some (s,c)=>match t with
    | 0=>bif QW s c4 then (match c with
     | .bx cs=>bif Nat.beq i 0 then (match part cs j n with
      | some ds=>fL ds λ ds=>my agg ds λ v=>K v M
      | none=>False) else False
     | .rw _ es=>A5 es i j n λ ds=>fL ds λ ds=>bif D5 ds then my agg ds λ v=>K v M else False
     | .bs _ es=>(match es[i]? with
      | some cs=>(match part cs j n with
       | some ds=>fL ds λ ds=>my agg ds λ v=>K v M
       | none=>False)
      | none=>False)
     | .mx rows=>bif Nat.beq j 0 then bif Nat.beq n 1 then B1 rows i λ r=>match r with
      | some (z,es)=>my agg [.row key (i+1) z 0 es.length] λ v=>K v M
      | none=>my agg [.nil] λ v=>K v M else False else False
     | .hx _ _ _=>False
     | .vw _ _=>False) else False
    | i'+1=>match c,c4 with
     | .mx rows,[]=>BQ rows i' λ_ es=>A5 es i j n λ ds=>fL ds λ ds=>bif D5 ds then my agg ds λ v=>K v M else False
     | .mx rows,b::r=>bif R5 (b::r) then BQ rows i' λ_ es=>A5 es i j n λ ds=>fL ds λ ds=>bif D5 ds then my agg ds λ v=>K v M else False else False
     | _,_=>False
   | none=>False
  | .q8 cs=>match part cs 0 n with
   | some ds=>fL ds λ ds=>bif D5 ds then my agg ds λ v=>K v M else False
   | none=>False
  | _=>False
 | .st n x v=>gT tm M K n x v
 | .kj s n x v=>match ex tm x with
  | .ptr key 0 _ _=>(match c7 M key with
   | some (s',_)=>bif Nat.beq s' s then gT tm M K n x v else False
   | none=>False)
  | _=>False
 | .l8 f xs=>TF tm xs λ vs=>bif vs.all dq then AB L f (vs.map ry) λ r=>BB r λ r=>K r M else False
 | .mk s z bytes zero l c=>match ex tm l,ex tm c with
  | .int _ a,.int _ b=>bif Nat.beq zero.length z then bif D5 zero then match zero with
   | [.nil]=>bif E4 s then CH a b bytes λ rows n=>GH s tm M λ k=>K (.row k 0 z 0 n) ((k,s,.mx rows)::M) else False
   | zero=>bif E4 s then (BG a b bytes zero λ es n=>GH s tm M λ k=>K (.row k 0 z 0 n) ((k,s,.rw z es)::M)) else False else False else False
  | _,_=>False
 | .bz z x lo hi=>YJ tm lo λ lo=>YJ tm hi λ hi=>match ex tm x with
  | .sl l es=>BR z es lo hi λ es=>K (.sl l es) M
  | .row key t z' off len=>bif Nat.beq z' z then BI lo hi len λ a h=>K (.row key t z (off+a) (h-a)) M else False
  | .nil=>(match lo,hi with
   | none,none=>K .nil M
   | some a,none=>AM (a=0) (K .nil M)
   | none,some h=>AM (h=0) (K .nil M)
   | some a,some h=>AM (a=0/\h=0) (K .nil M))
  | _=>False
 | .ext x i=>match ex tm x with
  | .g8 vs=>f2 (ub vs i) λ v=>K v M
  | _=>False
 | .len x=>match ex tm x with
  | .sl _ es=>AX es λ n=>K (.int .i64 (n:Int)) M
  | .nil=>K (.int .i64 0) M
  | .row _ _ _ _ n=>K (.int .i64 (n:Int)) M
  | _=>False
 | .mm mx xs=>match QK tm xs with
  | .int k a::r=>R1 mx k (λ v=>K v M) a r
  | _=>False
 | .app s z bytes x y=>bif Nat.ble 800000 s then aF tm M s z bytes x y K else (
  match RC M (ex tm y) with
  | some (ky,some (k2,z2,n2))=>match ex tm x with
   | .row key 0 z' off len=>bif Nat.beq off 0 then bif Nat.beq z' 1 then bif Nat.beq z 1 then bif Nat.beq key k2 then False else bif Nat.beq key ky then False else bif Nat.beq k2 ky then False else (match c7 M k2 with
    | some (_,.rw z3 es)=>bif Nat.beq z2 z3 then (match c7 M key with
     | some (s',.mx rows)=>fM (n7 key (n7 k2 (n7 ky M))) λ M'=>AM (n2=es.length) (BF rows len (some (z2,es)) bytes λ bu n=>GH s tm M λ k=>K (.row k 0 z 0 n) ((k,s',.mx bu)::M'))
     | _=>False) else False
    | _=>False) else False else False else False
   | .nil=>bif E4 s then bif Nat.beq z 1 then (match c7 M k2 with
    | some (_,.rw z3 es)=>bif Nat.beq z2 z3 then fM (n7 k2 M) λ M'=>AM (n2=es.length/\bytes<=140737488355328) (GH s tm M λ k=>K (.row k 0 z 0 1) ((k,s,.mx [some (z2,es)])::M')) else False
    | _=>False) else False else False
   | _=>False
  | some (ky,none)=>match ex tm x with
   | .row key 0 z' off len=>bif Nat.beq off 0 then bif Nat.beq z' 1 then bif Nat.beq z 1 then bif Nat.beq key ky then False else (match c7 M key with
     | some (s',.mx rows)=>fM (n7 key M) λ M'=>BF rows len none bytes λ bu n=>GH s tm M λ k=>K (.row k 0 z 0 n) ((k,s',.mx bu)::M')
     | _=>False) else False else False else False
   | .nil=>bif E4 s then bif Nat.beq z 1 then AM (bytes<=140737488355328) (GH s tm M λ k=>K (.row k 0 z 0 1) ((k,s,.mx [none])::M)) else False else False
   | _=>False
  | none=>XT M (ex tm y) λ ys=>match ex tm x with
   | .row key 0 z' off len=>bif Nat.beq off 0 then bif Nat.beq z' z then (match c7 M key with
    | some (s',.rw di es)=>bif Nat.beq di z then fM (n7 key M) λ M'=>(A9 es len ys z bytes λ es' n=>GH s tm M λ k=>K (.row k 0 z 0 n) ((k,s',.rw z es')::M')) else False
    | _=>False) else False else False
   | .row key (i+1) z' off len=>bif Nat.beq off 0 then bif Nat.beq z' z then (match c7 M key with
    | some (sk,.mx rows)=>fM (n7 key M) λ M'=>BQ rows i λ di es=>bif Nat.beq di z then (A9 es len ys z bytes λ es' n => ∀ s' v,GH s tm M λ k=>K (.row k 0 z 0 n) ((k,s',.rw z es')::(key,sk,.hx i v (rows.set i none))::M')) else False
    | _=>False) else False else False
   | .nil=>bif E4 s then BS ys z bytes λ es n=>GH s tm M λ k=>K (.row k 0 z 0 n) ((k,s,.rw z es)::M) else False
   | _=>False)
 | .call f xs=>WB tm M c4 xs λ vs=>AB L f vs λ r=>K r M
 | .e9 f xs=>TF tm xs λ vs=>A1 L f vs tm M K
 | .o8 s f xs=>bif E4 s then gI tm M c4 xs λ vs=>B5 L f vs λ z es n=>GH s tm M λ k=>K (.row k 0 z 0 n) ((k,s,.rw z es)::M) else False
 | .nr ne x=>match ex tm x with
  | .nil=>fB (xor true ne) λ c=>K (.bool c) M
  | .x9 (.bool b)=>fB (xor b ne) λ c=>K (.bool c) M
  | .sl _ es=>AM (es≠[]) (fB (xor false ne) λ c=>K (.bool c) M)
  | .row _ _ _ _ n=>AM (0<n) (fB (xor false ne) λ c=>K (.bool c) M)
  | _=>False
 | .bad=>False
 | .z7 s f xs=>TF tm xs λ vs=>match vs with
  | .ptr key 0 0 0::rest=>bif X6 rest then wT L s f key rest M K else False
  | _=>False
 | .de tb x=>match ex tm x with
  | .int _ n=>RB tb n λ v=>K (.int .u8 v) M
  | _=>False
 | .ki p f xs=>eG tm xs λ cs=>K (.fn (p&&cs.isEmpty) f (L.num f) cs) M
 | .m6 x xs=>match ex tm x with
  | .fn true f g []=>AM (g=L.num f) (WB tm M [] xs λ vs=>AB L f vs λ r=>K r M)
  | .fn true f g (c::cs)=>AM (g=L.num f) (P3 true M [] (.agg (c::cs)) λ v=>WB tm M [] xs λ vs=>AB L f (v::vs) λ r=>K r M)
  | .fn false f g cs=>bif VX cs then AM (g=L.num f) (TF tm xs λ vs=>fL (vs++cs) λ vs=>A1 L f vs tm M K) else False
  | _=>False
def Ac (key:Nat):Tm->Tm
 | []=>[]
 | (j,v)::r=>bif QG key v then (j,.any)::Ac key r else (j,v)::Ac key r
def xk (v:AV) (tm:Tm) (K:Tm->Prop):Prop:=match v with
 | .row key (_+1) _ _ _=>fT (Ac key tm) K
 | _=>K tm
noncomputable def XI (L:Lib) (o:AI) (ih:(Tm->Mem->Prop)->Tm->Mem->Prop) (K:Tm->Mem->Prop) (tm:Tm) (M:Mem):Prop:=match o with
 | ⟨some d,.app s z b x y,none,c4⟩=>XE L tm M c4 (λ v M=>xk (ex tm x) tm λ tm=>ih K ((d,v)::tm) M) (.app s z b x y)
 | ⟨some d,op,none,c4⟩=>XE L tm M c4 (λ v M=>ih K ((d,v)::tm) M) op
 | ⟨none,op,none,c4⟩=>XE L tm M c4 (λ_ M=>ih K tm M) op
 | ⟨dst,op,some (g,w),c4⟩=>match tg tm g with
  | .bool b=>fB (b == w) λ c=>match c,dst with
   | true,some d=>XE L tm M c4 (λ v M=>ih K ((d,v)::tm) M) op
   | true,none=>XE L tm M c4 (λ_ M=>ih K tm M) op
   | false,some d=>ih K ((d,.g8 [])::tm) M
   | false,none=>ih K tm M
  | .g8 []=>match dst with
   | some d=>ih K ((d,.g8 [])::tm) M
   | none=>ih K tm M
  | _=>False
noncomputable def XO (L:Lib) (l:List AI):(Tm->Mem->Prop)->Tm->Mem->Prop :=
 List.rec (motive:=λ_=>(Tm->Mem->Prop)->Tm->Mem->Prop) (λ K tm M=>K tm M) (λ o _ ih K tm M=>XI L o ih K tm M) l
noncomputable def XS (L:Lib) (Q:Tm->Mem->Prop) (ih:List It->Tm->Mem->Prop) (k:List It) (tm:Tm) (M:Mem):Prop:=match k with
 | []=>Q tm M
 | it::k=>match it with
  | .c9 _=>ih k tm M
  | .jx ts ss=>fN (mask 0 ts) λ m=>fT (se m tm) λ tm=>match ss with
   | []=>ih k tm M
   | _::_=>False
  | .lp c=>AA L (.lp c::k) tm M Q
  | .code c=>match c with
   | .skip=>ih k tm M
   | .ops l _=>XO L l (λ tm M=>ih k tm M) tm M
   | .dr c ts ss=>ih (.code c :: .jx ts ss::k) tm M
   | .scope c=>ih (.code c::k) tm M
   | .seq a b=>ih (.code a :: .code b::k) tm M
   | .cond x a b=>match ex tm x with
    | .bool b'=>fB b' λ c=>match c with
     | true=>ih (.code a::k) tm M
     | false=>ih (.code b::k) tm M
    | _=>False
   | .block id c=>ih (.code c :: .c9 id::k) tm M
   | .loop c=>AA L (.lp c::k) tm M Q
   | .exit id=>match FI id k with
    | some k'=>ih k' tm M
    | none=>False
   | .ret=>Q tm M
noncomputable def XK (L:Lib) (Q:Tm->Mem->Prop) (n:Nat):List It->Tm->Mem->Prop :=
 Nat.rec (motive:=λ_=>List It->Tm->Mem->Prop) (λ k tm M=>AA L k tm M Q) (λ_ ih k tm M=>XS L Q ih k tm M) n
def V5 (tm:Tm) (M:Mem) (r:JN) (K:AV->Prop):Prop:=match r with
 | .tmp t=>f2 (tg tm t) K
 | .cell t agg n=>match tg tm t with
  | .ptr key 0 i j=>match c7 M key with
   | some (_,.bx cs)=>bif Nat.beq i 0 then (match part cs j n with
    | some ds=>fL ds λ ds=>my agg ds K
    | none=>False) else False
   | _=>False
  | _=>False
noncomputable def YU (tm:Tm) (M:Mem) (l:List JN):(List AV->Prop)->Prop :=
 List.rec (motive:=λ_=>(List AV->Prop)->Prop) (λ K=>K []) (λ x _ ih K=>V5 tm M x λ v=>ih λ vs=>K (v::vs)) l
noncomputable def gF (q:Bool) (M:Mem) (l:List AV):(List AV->Prop)->Prop :=
 List.rec (motive:=λ_=>(List AV->Prop)->Prop) (λ K=>K []) (λ x _ ih K=>P3 q M [] x λ v=>ih λ vs=>K (v::vs)) l
def Mw (vs:List AV) (K:AV->Prop):Prop:=match vs with
 | [v]=>K v
 | vs=>K (.g8 vs)
def AJ (a r:AV):Prop:=a=r/\A4 r
noncomputable def QC (fn:AFn) (r:AV) (tm:Tm) (M:Mem):Prop:=YU tm M fn.res λ vs=>gF false M vs λ vs=>Mw vs λ v=>AJ v r
end Go.b7
