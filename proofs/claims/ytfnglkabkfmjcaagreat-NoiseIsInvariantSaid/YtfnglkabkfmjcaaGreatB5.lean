/-
  Rules to run the abstract machine by rewriting.
-/
import Derived.Test.YtfnglkabkfmjcaaGreatB4
import Derived.Test.YtfnglkabkfmjcaaGreatB1
import Derived.IntWalk
set_option linter.unusedSimpArgs false
set_option linter.unusedVariables false
set_option linter.unnecessarySimpa false
namespace Go.e9
section
variable {L:Lib}
def Cl.le (C C':Cl):Prop:=(∀ f vs r,C.pure f vs=some r->C'.pure f vs=some r)/\(∀ f vs o r,C.mh f vs o=some r->C'.mh f vs o=some r)/\C.num=C'.num
theorem Xr {x y:Option (AV × AH)} {r:Nat × List (List AV)} (h : ∀ q,x=some q->y=some q) (hr:bL x=some r):bL y=some r:=by
 cases x with
 | none=>simp [bL]at hr
 | some q=>rw[h q rfl];exact hr
theorem Alc {C C':Cl} (h:C.le C') {g9:List Nat} {ρ:AP->AV} {own:AH} {op:D8} {E:CG} (he:m6 C g9 ρ own op=some E):m6 C' g9 ρ own op=some E:=by
 cases op with
 | call f xs =>
  simp only[m6]at he ⊢;split at he
  ·rename_i vs me
   simp only[Option.map_eq_some_iff]at he ⊢;obtain ⟨r,hr,rfl⟩:=he;exact ⟨r,h.1 f vs r hr,rfl⟩
  ·cases he
 | m7 f xs =>
  simp only[m6,Option.map_eq_some_iff]at he ⊢;obtain ⟨r,hr,rfl⟩:=he;exact ⟨r,h.2.1 f _ own r hr,rfl⟩
 | um p f xs=>simp only[m6]at he ⊢;rw[<-h.2.2];exact he
 | wi f x=>simp only[m6]at he ⊢;rw[<-h.2.2];exact he
 | gj s f xs =>
  simp only[m6,Option.map_eq_some_iff]at he ⊢;obtain ⟨p,hp,rfl⟩:=he;exact ⟨p,qA.2 λ o ho=>h.2.1 f _ o _ (qA.1 hp o ho),rfl⟩
 | bm s f xs =>
  simp only[m6]at he ⊢;split at he
  ·rename_i vs me
   simp only[Option.map_eq_some_iff]at he ⊢;obtain ⟨r,hr,rfl⟩:=he;exact ⟨r,Xr (h.2.1 f vs AH.emp) hr,rfl⟩
  ·cases he
 | w9 f xs =>
  simp only[m6]at he ⊢;split at he
  ·rename_i hq
   rw[if_pos hq];split at he
   ·rename_i r hr
    rw[h.1 _ _ r hr];exact he
   ·cases he
  ·cases he
 | y7 x xs =>
  simp only[m6]at he ⊢;rw[<-h.2.2];split at he
  ·split at he
   ·rename_i hg
    rw[if_pos hg];split at he
    ·split at he
     ·rename_i vs me
      simp only[Option.map_eq_some_iff]at he ⊢;obtain ⟨r,hr,rfl⟩:=he;exact ⟨r,h.1 _ vs r hr,rfl⟩
     ·cases he
    ·simp only[Option.map_eq_some_iff]at he ⊢
     obtain ⟨r,hr,rfl⟩:=he;exact ⟨r,h.2.1 _ _ own r hr,rfl⟩
    ·split at he
     ·rename_i vs me
      simp only[Option.map_eq_some_iff]at he ⊢;obtain ⟨r,hr,rfl⟩:=he;exact ⟨r,h.1 _ vs r hr,rfl⟩
     ·cases he
   ·cases he
  ·cases he
 | _=>exact he
theorem Aqc {C C':Cl} (h:C.le C') {o:AI} {st o7:St} (he:C9 C o st=some o7):C9 C' o st=some o7:=by
 unfold C9 at he ⊢;split at he
 ·simp only[Option.map_eq_some_iff]at he ⊢
  obtain ⟨E,h1,h2⟩:=he;exact ⟨E,Alc h h1,h2⟩
 ·exact he
 ·exact he
theorem cA {C C':Cl} (h:C.le C') : ∀ {l:List AI} {st o7:St},DE C l st=some o7->DE C' l st=some o7
 | [],st,o7,he=>he
 | o::r,st,o7,he=>by
  simp only[DE]at he ⊢;cases hs:C9 C o st with
  | none=>simp [hs]at he
  | some BA =>
   rw[Aqc h hs];simp only[hs]at he;exact cA h he
theorem SH {C C':Cl} (h:C.le C') : ∀ {n n':Nat} {k:List It} {st o7:St},n<=n'->run C n k st=some o7->run C' n' k st=some o7:=by
 intro n;induction n with
 | zero=>intro n' k st o7 _ hr;simp [run]at hr
 | succ n ih =>
  intro n' k st o7 hn hr;obtain ⟨q,rfl⟩ : ∃ q,n'=q+1:=⟨n'-1,by omega⟩;have hq:n<=q:=by omega
  cases k with
  | nil=>exact hr
  | cons it k =>
   cases it with
   | m5 id=>simp only[run]at hr ⊢;exact ih hq hr
   | oc ts ss=>simp only[run]at hr ⊢;exact ih hq hr
   | lp c=>simp only[run]at hr ⊢;exact ih hq hr
   | code c =>
    cases c with
    | skip=>simp only[run]at hr ⊢;exact ih hq hr
    | ops l d =>
     simp only[run]at hr ⊢;cases hs:DE C l st with
     | none=>simp [hs]at hr
     | some BA =>
      rw[cA h hs];simp only[hs]at hr;exact ih hq hr
    | dr c ts ss=>simp only[run]at hr ⊢;exact ih hq hr
    | scope c=>simp only[run]at hr ⊢;exact ih hq hr
    | seq a b=>simp only[run]at hr ⊢;exact ih hq hr
    | cond x a b =>
     simp only[run]at hr ⊢;split at hr
     ·exact ih hq hr
     ·exact ih hq hr
     ·cases hr
    | block id c=>simp only[run]at hr ⊢;exact ih hq hr
    | loop c=>simp only[run]at hr ⊢;exact ih hq hr
    | exit id =>
     simp only[run]at hr ⊢;split at hr
     ·exact ih hq hr
     ·cases hr
    | ret=>exact hr
theorem nS {I I':List AV->Option (AV × AH)} (hI : ∀ vs r,I vs=some r->I' vs=some r) {vs:List AV} {r:AV} (h:KD I vs=some r):KD I' vs=some r:=by
 unfold KD at h ⊢;cases he:I vs with
 | none=>simp [he]at h
 | some x=>rw[hI vs _ he];simpa [he] using h
theorem Ao8 {b:Bool} {I I':List AV->Option (AV × AH)} (hI : ∀ vs r,I vs=some r->I' vs=some r) {vs:List AV} {r:AV} (h:XA b I vs=some r):XA b I' vs=some r:=by
 unfold XA at h ⊢;split at h
 ·split at h
  ·rename_i r1 r2 h1 h2
   rw[nS hI h1,nS hI h2];exact h
  ·cases h
 ·exact nS hI h
theorem Xv : ∀ (n:Nat),(C6 L n).le (C6 L (n+1)):=by
 have mh : ∀ n,(∀ f vs o r,DZ L n f vs o=some r->DZ L (n+1) f vs o=some r) -> ∀ f vs r,HK L n f vs=some r->HK L (n+1) f vs=some r:=by
  intro n hI f vs r h;exact Ao8 (λ vs r h=>hI f vs _ r h) h
 intro n;induction n with
 | zero =>
  have : ∀ f vs o r,DZ L 0 f vs o=some r->DZ L 1 f vs o=some r:=λ f vs o r h=>by simp [DZ]at h
  exact ⟨mh 0 this,this,rfl⟩
 | succ n ih =>
  have : ∀ f vs o r,DZ L (n+1) f vs o=some r->DZ L (n+2) f vs o=some r:=λ f vs o r h=>by
   rw[mL]at h ⊢;cases hL:L f with
   | none=>simp [hL]at h
   | some fn =>
    simp only[hL]at h ⊢;split at h
    ·rename_i hp
     rw[if_pos hp];cases hr:run (C6 L n) n [.code fn.body] ⟨C0 0 vs,o⟩ with
     | none=>simp [hr]at h
     | some st =>
      rw[SH ih (Nat.le_succ n) hr];simpa [hr] using h
    ·cases h
  exact ⟨mh (n+1) this,this,rfl⟩
theorem FJ {n n':Nat} (h:n<=n'):(C6 L n).le (C6 L n'):=by
 induction h with
 | refl=>exact ⟨λ_ _ _ h=>h,λ_ _ _ _ h=>h,rfl⟩
 | step _ ih=>exact ⟨λ f vs r h=>(Xv _).1 f vs r (ih.1 f vs r h),λ f vs o r h=>(Xv _).2.1 f vs o r (ih.2.1 f vs o r h),rfl⟩
def Ev (L:Lib) (f:Nat) (vs:List AV) (r:AV):Prop := ∃ n,HK L n f vs=some r
def GA (L:Lib) (f:Nat) (vs:List AV) (r:AV):Prop := ∃ n,KD (λ vs=>DZ L n f vs AH.emp) vs=some r
def GU (L:Lib) (f:Nat) (vs:List AV) (o:AH) (r:AV) (o':AH):Prop := ∃ n,DZ L n f vs o=some (r,o')
def cI (L:Lib) (f:Nat) (vs:List AV) (z:Nat) (es:List (List AV)):Prop := ∃ n,bL (DZ L n f vs AH.emp)=some (z,es)
theorem Ev.Dy {f:Nat} {vs:List AV} {r r':AV} (h:Ev L f vs r) (h':Ev L f vs r'):r=r':=by
 obtain ⟨n,hn⟩:=h;obtain ⟨n',vq⟩:=h';have h1:=(FJ (L:=L) (Nat.le_max_left n n')).1 f vs r hn;have h2:=(FJ (L:=L) (Nat.le_max_right n n')).1 f vs r' vq;rw[h1]at h2;exact Option.some.inj h2
theorem GU.Dy {f:Nat} {vs:List AV} {o:AH} {r r':AV} {o1 o2:AH} (h:GU L f vs o r o1) (h':GU L f vs o r' o2):r=r'/\o1=o2:=by
 obtain ⟨n,hn⟩:=h;obtain ⟨n',vq⟩:=h';have h1:=(FJ (L:=L) (Nat.le_max_left n n')).2.1 f vs o _ hn;have h2:=(FJ (L:=L) (Nat.le_max_right n n')).2.1 f vs o _ vq;rw[h1]at h2;simpa using h2
def AK (L:Lib) (k:List It) (st:St) (Q:St->Prop):Prop := ∃ n c o7,run (C6 L c) n k st=some o7/\Q o7
def AO (L:Lib) (l:List AI) (k:List It) (st:St) (Q:St->Prop):Prop := ∃ n c BA o7,DE (C6 L c) l st=some BA/\run (C6 L c) n k BA=some o7/\Q o7
variable {k:List It} {st:St} {Q:St->Prop}
theorem TR {it:It} {k':List It} {BA:St} (h : ∀ (C:Cl) (n:Nat),run C (n+1) (it::k) st=run C n k' BA):AK L (it::k) st Q↔AK L k' BA Q:=by
 constructor
 ·rintro ⟨n,c,o7,hr,hq⟩
  cases n with
  | zero=>simp [run]at hr
  | succ n=>exact ⟨n,c,o7,by rw[<-h];exact hr,hq⟩
 ·rintro ⟨n,c,o7,hr,hq⟩
  exact ⟨n+1,c,o7,by rw[h];exact hr,hq⟩
theorem AgX:AK L [] st Q↔Q st:=by
 constructor
 ·rintro ⟨n,c,o7,hr,hq⟩
  cases n with
  | zero=>simp [run]at hr
  | succ n=>simp only[run,Option.some.injEq]at hr;exact hr ▸ hq
 ·exact λ h=>⟨1,0,st,rfl,h⟩
theorem AgP {id:Nat}:AK L (.m5 id::k) st Q↔AK L k st Q:=TR λ_ _=>rfl
theorem AgT {ts ss:List Nat}:AK L (.oc ts ss::k) st Q↔AK L k ⟨fe st.tm ts,st.own.drop ss⟩ Q:=TR λ_ _=>rfl
theorem Vb {c:BJ}:AK L (.lp c::k) st Q↔AK L (.code c :: .lp c::k) st Q:=TR λ_ _=>rfl
theorem Ag2:AK L (.code .skip::k) st Q↔AK L k st Q:=TR λ_ _=>rfl
theorem AgS {c:BJ} {ts ss:List Nat}:AK L (.code (.dr c ts ss)::k) st Q↔AK L (.code c :: .oc ts ss::k) st Q:=TR λ_ _=>rfl
theorem Ag0 {c:BJ}:AK L (.code (.scope c)::k) st Q↔AK L (.code c::k) st Q:=TR λ_ _=>rfl
theorem Ag1 {a b:BJ}:AK L (.code (.seq a b)::k) st Q↔AK L (.code a :: .code b::k) st Q:=TR λ_ _=>rfl
theorem AgQ {id:Nat} {c:BJ}:AK L (.code (.block id c)::k) st Q↔AK L (.code c :: .m5 id::k) st Q:=TR λ_ _=>rfl
theorem AgV {c:BJ}:AK L (.code (.loop c)::k) st Q↔AK L (.code c :: .lp c::k) st Q:=TR λ_ _=>rfl
theorem AgU {id:Nat} {k':List It} (h:D6 id k=some k'):AK L (.code (.exit id)::k) st Q↔AK L k' st Q:=TR λ C n=>by simp [run,h]
theorem AgZ:AK L (.code .ret::k) st Q↔Q st:=by
 constructor
 ·rintro ⟨n,c,o7,hr,hq⟩
  cases n with
  | zero=>simp [run]at hr
  | succ n=>simp only[run,Option.some.injEq]at hr;exact hr ▸ hq
 ·exact λ h=>⟨1,0,st,rfl,h⟩
theorem AgR {x:AP} {a b:BJ} {t:Bool} (h:st.ev x = .bool t):AK L (.code (.cond x a b)::k) st Q↔if t=true then AK L (.code a::k) st Q else AK L (.code b::k) st Q:=by
 cases t
 ·simpa using TR (k' := .code b::k) (BA:=st) λ C n=>by simp [run,h]
 ·simpa using TR (k' := .code a::k) (BA:=st) λ C n=>by simp [run,h]
theorem AgY {l:List AI} {d:Bool}:AK L (.code (.ops l d)::k) st Q↔AO L l k st Q:=by
 constructor
 ·rintro ⟨n,c,o7,hr,hq⟩
  cases n with
  | zero=>simp [run]at hr
  | succ n =>
   simp only[run]at hr;split at hr
   ·rename_i BA hs
    exact ⟨n,c,BA,o7,hs,hr,hq⟩
   ·cases hr
 ·rintro ⟨n,c,BA,o7,hs,hr,hq⟩
  exact ⟨n+1,c,o7,by simp [run,hs,hr],hq⟩
theorem Ahb:AO L [] k st Q↔AK L k st Q:=by
 constructor
 ·rintro ⟨n,c,BA,o7,hs,hr,hq⟩
  simp only[DE,Option.some.injEq]at hs;exact ⟨n,c,o7,hs ▸ hr,hq⟩
 ·rintro ⟨n,c,o7,hr,hq⟩
  exact ⟨n,c,st,o7,rfl,hr,hq⟩
theorem Ahe {o:AI} {l:List AI} {BA:St} (h : ∀ C,C9 C o st=some BA):AO L (o::l) k st Q↔AO L l k BA Q:=by
 constructor
 ·rintro ⟨n,c,BR,o7,hs,hr,hq⟩
  simp only[DE,h]at hs;exact ⟨n,c,BR,o7,hs,hr,hq⟩
 ·rintro ⟨n,c,BR,o7,hs,hr,hq⟩
  exact ⟨n,c,BR,o7,by simpa only[DE,h] using hs,hr,hq⟩
theorem Ahc {d:Option Nat} {op:D8} {g:Option (Nat × Bool)} {g9:List Nat} {l:List AI} (h:FX st g=some false):AO L (⟨d,op,g,g9⟩::l) k st Q↔AO L l k (st.dst d (.m9 [])) Q :=
 Ahe λ C=>by simp [C9,h]
theorem jK (c:Nat):(C6 L c).num=L.num:=rfl
theorem Ahd {d:Option Nat} {op:D8} {g:Option (Nat × Bool)} {g9:List Nat} {l:List AI} {E:CG} (h:FX st g=some true) (he : ∀ c,m6 (C6 L c) g9 st.ev st.own op=some E):AO L (⟨d,op,g,g9⟩::l) k st Q↔AO L l k (st.app d E) Q:=by
 have h : ∀ c,C9 (C6 L c) ⟨d,op,g,g9⟩ st=some (st.app d E):=λ c=>by simp [C9,h,he]
 constructor
 ·rintro ⟨n,c,BR,o7,hs,hr,hq⟩
  simp only[DE,h]at hs;exact ⟨n,c,BR,o7,hs,hr,hq⟩
 ·rintro ⟨n,c,BR,o7,hs,hr,hq⟩
  exact ⟨n,c,BR,o7,by simpa only[DE,h] using hs,hr,hq⟩
theorem Ag3 {d:Option Nat} {f:Nat} {xs:List AP} {g:Option (Nat × Bool)} {g9:List Nat} {l:List AI} {vs:List AV} {r:AV} (h:FX st g=some true) (hv:(xs.map st.ev).mapM (C8 (st.own.z0 g9) true)=some vs) (hr:Ev L f vs r) :
  AO L (⟨d,.call f xs,g,g9⟩::l) k st Q↔AO L l k (st.dst d r) Q:=by
 have o9 : ∀ c r',HK L c f vs=some r'->C9 (C6 L c) ⟨d,.call f xs,g,g9⟩ st=some (st.dst d r'):=λ c r' hc=>by
  have dk:(C6 L c).pure f vs=some r':=hc;simp [C9,h,m6,hv,dk,St.app]
 constructor
 ·rintro ⟨n,c,BR,o7,hs,kn,hq⟩
  simp only[DE]at hs;cases hI:C9 (C6 L c) ⟨d,.call f xs,g,g9⟩ st with
  | none=>simp [hI]at hs
  | some BA =>
   simp only[hI]at hs;cases hp:HK L c f vs with
   | none =>
    have dk:(C6 L c).pure f vs=none:=hp;simp [C9,h,m6,hv,dk]at hI
   | some r' =>
    obtain rfl:r'=r:=Ev.Dy ⟨c,hp⟩ hr;rw[o9 c r' hp]at hI;obtain rfl:=Option.some.inj hI;exact ⟨n,c,BR,o7,hs,kn,hq⟩
 ·rintro ⟨n,c,BR,o7,hs,kn,hq⟩
  obtain ⟨c',dk⟩:=hr;have l1:=FJ (L:=L) (Nat.le_max_left c c');have l2:=FJ (L:=L) (Nat.le_max_right c c');refine ⟨n,max c c',BR,o7,?_,SH l1 (Nat.le_refl n) kn,hq⟩;simp only[DE];rw[o9 (max c c') r (l2.1 f vs r dk)];exact cA l1 hs
theorem Ag6 {d:Option Nat} {f:Nat} {x:AP} {xs:List AP} {g:Option (Nat × Bool)} {g9:List Nat} {l:List AI} {vs:List AV} {r:AV} (h:FX st g=some true) (hx:st.ev x = .fn true f (L.num f) []) (hv:(xs.map st.ev).mapM (C8 st.own true)=some vs) (hr:Ev L f vs r) :
  AO L (⟨d,.y7 x xs,g,g9⟩::l) k st Q↔AO L l k (st.dst d r) Q:=by
 have o9 : ∀ c r',HK L c f vs=some r'->C9 (C6 L c) ⟨d,.y7 x xs,g,g9⟩ st=some (st.dst d r'):=λ c r' hc=>by
  have dk:(C6 L c).pure f vs=some r':=hc;simp [C9,h,m6,hx,jK,hv,dk,St.app]
 constructor
 ·rintro ⟨n,c,BR,o7,hs,kn,hq⟩
  simp only[DE]at hs;cases hI:C9 (C6 L c) ⟨d,.y7 x xs,g,g9⟩ st with
  | none=>simp [hI]at hs
  | some BA =>
   simp only[hI]at hs;cases hp:HK L c f vs with
   | none =>
    have dk:(C6 L c).pure f vs=none:=hp;simp [C9,h,m6,hx,jK,hv,dk]at hI
   | some r' =>
    obtain rfl:r'=r:=Ev.Dy ⟨c,hp⟩ hr;rw[o9 c r' hp]at hI;obtain rfl:=Option.some.inj hI;exact ⟨n,c,BR,o7,hs,kn,hq⟩
 ·rintro ⟨n,c,BR,o7,hs,kn,hq⟩
  obtain ⟨c',dk⟩:=hr;have l1:=FJ (L:=L) (Nat.le_max_left c c');have l2:=FJ (L:=L) (Nat.le_max_right c c');refine ⟨n,max c c',BR,o7,?_,SH l1 (Nat.le_refl n) kn,hq⟩;simp only[DE];rw[o9 (max c c') r (l2.1 f vs r dk)];exact cA l1 hs
theorem Ag4 {d:Option Nat} {f:Nat} {w:AV} {cs:List AV} {x:AP} {xs:List AP} {g:Option (Nat × Bool)} {g9:List Nat} {l:List AI} {vs:List AV} {r:AV} (h:FX st g=some true) (hx:st.ev x = .fn true f (L.num f) (w::cs)) (hv:(AV.agg (w::cs)::xs.map st.ev).mapM (C8 st.own true)=some vs) (hr:Ev L f vs r) :
  AO L (⟨d,.y7 x xs,g,g9⟩::l) k st Q↔AO L l k (st.dst d r) Q:=by
 have o9 : ∀ c r',HK L c f vs=some r'->C9 (C6 L c) ⟨d,.y7 x xs,g,g9⟩ st=some (st.dst d r'):=λ c r' hc=>by
  have dk:(C6 L c).pure f vs=some r':=hc;simp [C9,h,m6,hx,jK,hv,dk,St.app]
 constructor
 ·rintro ⟨n,c,BR,o7,hs,kn,hq⟩
  simp only[DE]at hs;cases hI:C9 (C6 L c) ⟨d,.y7 x xs,g,g9⟩ st with
  | none=>simp [hI]at hs
  | some BA =>
   simp only[hI]at hs;cases hp:HK L c f vs with
   | none =>
    have dk:(C6 L c).pure f vs=none:=hp;simp [C9,h,m6,hx,jK,hv,dk]at hI
   | some r' =>
    obtain rfl:r'=r:=Ev.Dy ⟨c,hp⟩ hr;rw[o9 c r' hp]at hI;obtain rfl:=Option.some.inj hI;exact ⟨n,c,BR,o7,hs,kn,hq⟩
 ·rintro ⟨n,c,BR,o7,hs,kn,hq⟩
  obtain ⟨c',dk⟩:=hr;have l1:=FJ (L:=L) (Nat.le_max_left c c');have l2:=FJ (L:=L) (Nat.le_max_right c c');refine ⟨n,max c c',BR,o7,?_,SH l1 (Nat.le_refl n) kn,hq⟩;simp only[DE];rw[o9 (max c c') r (l2.1 f vs r dk)];exact cA l1 hs
theorem Ag7 {d:Option Nat} {f:Nat} {xs:List AP} {g:Option (Nat × Bool)} {g9:List Nat} {l:List AI} {r:AV} (h:FX st g=some true) (hq:(xs.map st.ev).all dq=true) (hr:Ev L f ((xs.map st.ev).map Av) r) (ik:TT r\/iY r) :
  AO L (⟨d,.w9 f xs,g,g9⟩::l) k st Q↔AO L l k (st.dst d (YD r)) Q:=by
 have o9 : ∀ c,HK L c f ((xs.map st.ev).map Av)=some r->C9 (C6 L c) ⟨d,.w9 f xs,g,g9⟩ st=some (st.dst d (YD r)):=λ c hc=>by
  have dk:(C6 L c).pure f ((xs.map st.ev).map Av)=some r:=hc;simp only[C9,h,m6];rw[if_pos hq,dk];simp only[if_pos ik,Option.map_some,St.app]
 constructor
 ·rintro ⟨n,c,BR,o7,hs,kn,De⟩
  simp only[DE]at hs;cases hp:HK L c f ((xs.map st.ev).map Av) with
  | none =>
   have dk:(C6 L c).pure f ((xs.map st.ev).map Av)=none:=hp;simp only[C9,h,m6]at hs;rw[if_pos hq,dk]at hs;simp at hs
  | some r' =>
   obtain rfl:r'=r:=Ev.Dy ⟨c,hp⟩ hr;rw[o9 c hp]at hs;exact ⟨n,c,BR,o7,hs,kn,De⟩
 ·rintro ⟨n,c,BR,o7,hs,kn,De⟩
  obtain ⟨c',dk⟩:=hr;have l1:=FJ (L:=L) (Nat.le_max_left c c');have l2:=FJ (L:=L) (Nat.le_max_right c c');refine ⟨n,max c c',BR,o7,?_,SH l1 (Nat.le_refl n) kn,De⟩;simp only[DE];rw[o9 (max c c') (l2.1 f _ r dk)];exact cA l1 hs
theorem Ag8 {d:Option Nat} {s f:Nat} {xs:List AP} {g:Option (Nat × Bool)} {g9:List Nat} {l:List AI} {vs:List AV} {z:Nat} {es:List (List AV)} (h:FX st g=some true) (hv:(xs.map st.ev).mapM (bZ (st.own.z0 g9) true)=some vs) (hr:cI L f vs z es)
  (ha:AO L l k (st.app d (.new s ⟨z,es⟩ (λ t => .row s t z 0 es.length))) Q):AO L (⟨d,.bm s f xs,g,g9⟩::l) k st Q:=by
 obtain ⟨n,c,BR,o7,hs,kn,hq⟩:=ha;obtain ⟨c',dk⟩:=hr;have l1:=FJ (L:=L) (Nat.le_max_left c c');have l2:=FJ (L:=L) (Nat.le_max_right c c');have vi:bL ((C6 L (max c c')).mh f vs AH.emp)=some (z,es):=Xr (l2.2.1 f vs AH.emp) dk;refine ⟨n,max c c',BR,o7,?_,SH l1 (Nat.le_refl n) kn,hq⟩;simp only[DE];have:C9 (C6 L (max c c')) ⟨d,.bm s f xs,g,g9⟩ st=some (st.app d (.new s ⟨z,es⟩ (λ t => .row s t z 0 es.length))):=by
  simp only[C9,h,m6,hv,vi,Option.map_some]
 rw[this];exact cA l1 hs
def EvS (L:Lib) (s f:Nat) (vs:List AV) (q:CH) (r:AV) (q':CH):Prop := ∃ n,∀ o:AH,o s=q->DZ L n f vs o=some (r,o.put s q')
theorem Aha {d:Option Nat} {s f:Nat} {xs:List AP} {g:Option (Nat × Bool)} {g9:List Nat} {l:List AI} {r:AV} {q':CH} (h:FX st g=some true) (hr:EvS L s f (xs.map st.ev) (st.own s) r q')
  (ha:AO L l k (st.app d (.Aw s q' r)) Q):AO L (⟨d,.gj s f xs,g,g9⟩::l) k st Q:=by
 obtain ⟨n,c,BR,o7,hs,kn,hq⟩:=ha;obtain ⟨c',dk⟩:=hr;have l1:=FJ (L:=L) (Nat.le_max_left c c');have l2:=FJ (L:=L) (Nat.le_max_right c c');have vi:pZ (C6 L (max c c')) f (xs.map st.ev) s (st.own s)=some (r,q'):=qA.2 λ o ho=>l2.2.1 f _ o _ (dk o ho)
 refine ⟨n,max c c',BR,o7,?_,SH l1 (Nat.le_refl n) kn,hq⟩;simp only[DE];have:C9 (C6 L (max c c')) ⟨d,.gj s f xs,g,g9⟩ st=some (st.app d (.Aw s q' r)):=by
  simp only[C9,h,m6,vi,Option.map_some]
 rw[this];exact cA l1 hs
theorem Ag5 {d:Option Nat} {f:Nat} {xs:List AP} {g:Option (Nat × Bool)} {g9:List Nat} {l:List AI} {r:AV} {o':AH} (h:FX st g=some true) (hr:GU L f (xs.map st.ev) st.own r o') :
  AO L (⟨d,.m7 f xs,g,g9⟩::l) k st Q↔AO L l k { (st.dst d r) with own:=o' } Q:=by
 have o9 : ∀ c r' o1,DZ L c f (xs.map st.ev) st.own=some (r',o1)->C9 (C6 L c) ⟨d,.m7 f xs,g,g9⟩ st=some { (st.dst d r') with own:=o1 }:=λ c r' o1 hc=>by
  have dk:(C6 L c).mh f (xs.map st.ev) st.own=some (r',o1):=hc;simp [C9,h,m6,dk,St.app]
 constructor
 ·rintro ⟨n,c,BR,o7,hs,kn,hq⟩
  simp only[DE]at hs;cases hI:C9 (C6 L c) ⟨d,.m7 f xs,g,g9⟩ st with
  | none=>simp [hI]at hs
  | some BA =>
   simp only[hI]at hs;cases hp:DZ L c f (xs.map st.ev) st.own with
   | none =>
    have dk:(C6 L c).mh f (xs.map st.ev) st.own=none:=hp;simp [C9,h,m6,dk]at hI
   | some x =>
    obtain ⟨r',o1⟩:=x;obtain ⟨rfl,rfl⟩:=GU.Dy ⟨c,hp⟩ hr;rw[o9 c r' o1 hp]at hI;obtain rfl:=Option.some.inj hI;exact ⟨n,c,BR,o7,hs,kn,hq⟩
 ·rintro ⟨n,c,BR,o7,hs,kn,hq⟩
  obtain ⟨c',dk⟩:=hr;have l1:=FJ (L:=L) (Nat.le_max_left c c');have l2:=FJ (L:=L) (Nat.le_max_right c c');refine ⟨n,max c c',BR,o7,?_,SH l1 (Nat.le_refl n) kn,hq⟩;simp only[DE];rw[o9 (max c c') r o' (l2.2.1 f _ _ _ dk)];exact cA l1 hs
theorem Ag9 {d:Option Nat} {f:Nat} {cs:List AV} {x:AP} {xs:List AP} {g:Option (Nat × Bool)} {g9:List Nat} {l:List AI} {r:AV} {o':AH} (h:FX st g=some true) (hx:st.ev x = .fn false f (L.num f) cs) (hr:GU L f (xs.map st.ev++cs) st.own r o') :
  AO L (⟨d,.y7 x xs,g,g9⟩::l) k st Q↔AO L l k { (st.dst d r) with own:=o' } Q:=by
 have o9 : ∀ c r' o1,DZ L c f (xs.map st.ev++cs) st.own=some (r',o1)->C9 (C6 L c) ⟨d,.y7 x xs,g,g9⟩ st=some { (st.dst d r') with own:=o1 }:=λ c r' o1 hc=>by
  have dk:(C6 L c).mh f (xs.map st.ev++cs) st.own=some (r',o1):=hc;simp [C9,h,m6,hx,jK,dk,St.app]
 constructor
 ·rintro ⟨n,c,BR,o7,hs,kn,hq⟩
  simp only[DE]at hs;cases hI:C9 (C6 L c) ⟨d,.y7 x xs,g,g9⟩ st with
  | none=>simp [hI]at hs
  | some BA =>
   simp only[hI]at hs;cases hp:DZ L c f (xs.map st.ev++cs) st.own with
   | none =>
    have dk:(C6 L c).mh f (xs.map st.ev++cs) st.own=none:=hp;simp [C9,h,m6,hx,jK,dk]at hI
   | some x =>
    obtain ⟨r',o1⟩:=x;obtain ⟨rfl,rfl⟩:=GU.Dy ⟨c,hp⟩ hr;rw[o9 c r' o1 hp]at hI;obtain rfl:=Option.some.inj hI;exact ⟨n,c,BR,o7,hs,kn,hq⟩
 ·rintro ⟨n,c,BR,o7,hs,kn,hq⟩
  obtain ⟨c',dk⟩:=hr;have l1:=FJ (L:=L) (Nat.le_max_left c c');have l2:=FJ (L:=L) (Nat.le_max_right c c');refine ⟨n,max c c',BR,o7,?_,SH l1 (Nat.le_refl n) kn,hq⟩;simp only[DE];rw[o9 (max c c') r o' (l2.2.1 f _ _ _ dk)];exact cA l1 hs
theorem AgW {Q':St->Prop} (h:AK L k st Q) (hq : ∀ s,Q s->Q' s):AK L k st Q':=by
 obtain ⟨n,c,o7,hr,hh⟩:=h;exact ⟨n,c,o7,hr,hq _ hh⟩
theorem GU.intro {f:Nat} {fn:AFn} {vs:List AV} {o:AH} {r:AV} {o':AH} (hL:L f=some fn) (hp:vs.length=fn.fo) (h:AK L [.code fn.body] ⟨C0 0 vs,o⟩ (λ st=>(fn.res.mapM (FG st)).map I2=some r/\st.own=o')):GU L f vs o r o':=by
 obtain ⟨n,c,o7,hr,h1,h2⟩:=h;refine ⟨max n c+1,?_⟩;rw[mL];simp only[hL,hp,if_true];rw[SH (FJ (L:=L) (Nat.le_max_right n c)) (Nat.le_max_left n c) hr];cases hm:fn.res.mapM (FG o7) with
 | none=>rw[hm]at h1;cases h1
 | some rs =>
  rw[hm]at h1;simp only[Option.map_some,Option.some.injEq]at h1;simp [hm,h1,h2]
theorem GA.intro {f:Nat} {fn:AFn} {vs:List AV} {r:AV} (hL:L f=some fn) (hp:vs.length=fn.fo) (h:AK L [.code fn.body] ⟨C0 0 vs,AH.emp⟩ (λ st=>((fn.res.mapM (FG st)).map I2).bind (fO st.own false)=some r/\A6 r)):GA L f vs r:=by
 obtain ⟨n,c,o7,hr,h1,h2⟩:=h;cases hm:(fn.res.mapM (FG o7)).map I2 with
 | none=>rw[hm]at h1;cases h1
 | some r0 =>
  rw[hm]at h1;simp only[Option.bind_some]at h1;obtain ⟨q,hq⟩:=GU.intro (o:=AH.emp) (r:=r0) (o':=o7.own) hL hp ⟨n,c,o7,hr,hm,rfl⟩;refine ⟨q,?_⟩;unfold KD;simp [hq,h1,h2]
theorem GA.ev {f:Nat} {fn:AFn} {vs:List AV} {r:AV} (hL:L f=some fn) (h:GA L f vs r) (hs:fn.uq=false:=by rfl):Ev L f vs r:=by
 obtain ⟨n,h⟩:=h;have hs:L.uq f=false:=by simp only[Lib.uq,hL,hs]
 exact ⟨n,by unfold HK XA;rw[hs];exact h⟩
theorem GA.cons {f:Nat} {q:Bool} {e:List AV} {es:List (List AV)} {vs:List AV} {r:AV} (h:GA L f (.sl q (e::es)::vs) r):Ev L f (.sl q (e::es)::vs) r:=by
 obtain ⟨n,h⟩:=h;refine ⟨n,?_⟩;unfold HK XA;split
 ·rename_i heq;simp at heq
 ·exact h
theorem GA.nil {f:Nat} {fn:AFn} {q:Bool} {vs:List AV} {r:AV} (hL:L f=some fn) (h1:GA L f (.ib (.bool true)::vs) r) (h2:GA L f (.ib (.bool false)::vs) r) (hs:fn.uq=true:=by rfl):Ev L f (.sl q []::vs) r:=by
 obtain ⟨n,h1⟩:=h1;obtain ⟨n',h2⟩:=h2;have hs:L.uq f=true:=by simp only[Lib.uq,hL,hs]
 have k1:=nS (λ vs r h=>(FJ (L:=L) (Nat.le_max_left n n')).2.1 f vs AH.emp r h) h1;have k2:=nS (λ vs r h=>(FJ (L:=L) (Nat.le_max_right n n')).2.1 f vs AH.emp r h) h2;refine ⟨max n n',?_⟩;unfold HK XA;rw[hs];simp only;have k1':KD (λ vs=>DZ L (max n n') f vs AH.emp) (.ib (.bool true)::vs)=some r:=k1;have k2':KD (λ vs=>DZ L (max n n') f vs AH.emp) (.ib (.bool false)::vs)=some r:=k2;rw[k1',k2'];simp
theorem Ev.intro {f:Nat} {fn:AFn} {vs:List AV} {r:AV} (hL:L f=some fn) (hp:vs.length=fn.fo) (h:AK L [.code fn.body] ⟨C0 0 vs,AH.emp⟩ (λ st=>((fn.res.mapM (FG st)).map I2).bind (fO st.own false)=some r/\A6 r)) (hs:fn.uq=false:=by rfl):Ev L f vs r :=
 (GA.intro hL hp h).ev hL hs
end
end Go.e9
namespace Go.e9
section
variable {L:Lib} {k:List It} {tm:Tm} {own:AH} {Q:St->Prop} {l:List AI} {g9:List Nat} {d:Nat}
theorem oM (i:Nat) (v:AV) (r:Tm) (j:Nat):m8 ((i,v)::r) j=if j=i then v else m8 r j:=rfl
theorem Aqp (j:Nat):m8 [] j = .any:=rfl
theorem Aqm (i:Nat) (v:AV) (r:Tm) (l:List Nat):fe ((i,v)::r) l=if l.contains i then fe r l else (i,v)::fe r l:=rfl
theorem Aqn (l:List Nat):fe [] l=[]:=rfl
theorem Ano (i:Nat) (v:AV) (r:List AV):C0 i (v::r)=(i,v)::C0 (i+1) r:=rfl
end
end Go.e9

namespace Go.e9
section
variable {L:Lib} {k:List It} {tm:Tm} {own:AH} {st:St} {Q:St->Prop} {l:List AI} {g9:List Nat} {d:Nat} {dst:Option Nat}
section
variable {x y:AP} {kd:IntKind} {a b:Int}
end
def lM (fn:AFn) (r:AV) (st:St):Prop:=((fn.res.mapM (FG st)).map I2).bind (fO st.own false)=some r/\A6 r
theorem Ev.fwd {f:Nat} {fn:AFn} {vs:List AV} {r:AV} (hL:L f=some fn) (hp:vs.length=fn.fo) (h:AK L [.code fn.body] ⟨C0 0 vs,AH.emp⟩ (lM fn r)) (hs:fn.uq=false:=by rfl):Ev L f vs r:=Ev.intro hL hp h hs
theorem GA.fwd {f:Nat} {fn:AFn} {vs:List AV} {r:AV} (hL:L f=some fn) (hp:vs.length=fn.fo) (h:AK L [.code fn.body] ⟨C0 0 vs,AH.emp⟩ (lM fn r)):GA L f vs r:=GA.intro hL hp h
end
attribute [irreducible] lM
end Go.e9

namespace Go.e9
def pw (n:Int):Int:=2^n.toNat
theorem Ao9 (n:Int):1<=pw n:=by
 have:0<pw n:=Int.pow_pos (by decide)
 omega
theorem ApS {k2:IntKind} {a n:Int} (h:0<=n/\n<=63):DW .shr .i64 a k2 n=some (.int .i64 (a/pw n)):=by
 have h2:=Ao9 n;have e:(2:Int)^(min n.toNat IntKind.i64.bits)=pw n:=by
  have:min n.toNat IntKind.i64.bits=n.toNat:=by simp only[IntKind.bits];omega
  rw[this];rfl
 simp only[DW];rw[if_neg (by omega),e,Int.fdiv_eq_ediv_of_nonneg _ (by omega)]
theorem Agn {a m:Int} (hm:0<m):a.tmod m=if 0<=a\/a%m=0 then a%m else a%m-m:=by
 have h:=Int.tmod_eq_emod (a:=a) (b:=m);rw[h];have hd:m ∣ a↔a%m=0:=Int.dvd_iff_emod_eq_zero;by_cases h0:0<=a\/a%m=0
 ·rw[if_pos h0,if_pos (by rcases h0 with h0|h0;exact Or.inl h0;exact Or.inr (hd.2 h0))];omega
 ·rw[if_neg h0,if_neg (λ h=>h0 (h.imp id hd.1))]
  have:(m.natAbs:Int)=m:=by omega
  omega
theorem Agl {a m:Int} (hm:0<m):a.tdiv m=if 0<=a\/a%m=0 then a/m else a/m+1:=by
 have h:=Int.tdiv_eq_ediv (a:=a) (b:=m);rw[h];have hd:m ∣ a↔a%m=0:=Int.dvd_iff_emod_eq_zero;by_cases h0:0<=a\/a%m=0
 ·rw[if_pos h0,if_pos (by rcases h0 with h0|h0;exact Or.inl h0;exact Or.inr (hd.2 h0))];omega
 ·rw[if_neg h0,if_neg (λ h=>h0 (h.imp id hd.1)),Int.sign_eq_one_of_pos hm]
theorem Ak9 {a m:Int} (hm:1<=m) (h : -9223372036854775808<=a/\a<=9223372036854775807) : -9223372036854775808<=a/m/\a/m<=9223372036854775807:=by
 constructor
 ·rw[Int.le_ediv_iff_mul_le (by omega)]
  have:=Int.mul_le_mul_of_nonpos_left (a := -9223372036854775808) (b:=m) (c:=1) (by omega) hm
  omega
 ·have:a/m<9223372036854775808:=by
   rw[Int.ediv_lt_iff_lt_mul (by omega)];have:=Int.mul_le_mul_of_nonneg_left (c:=9223372036854775808) (a:=1) (b:=m) hm (by omega)
   omega
  omega
section
variable {L:Lib} {k:List It} {tm:Tm} {own:AH} {Q:St->Prop} {l:List AI} {g9:List Nat} {d:Nat} {x y:AP} {a b n p:Int} {k2:IntKind}
end
end Go.e9

namespace Go.e9
theorem kX (ts:List Nat) (j:Nat) : ∀ tm:Tm,m8 (fe tm ts) j=if ts.contains j then .any else m8 tm j
 | []=>by simp [Aqn,Aqp]
 | (i,u)::r=>by
  rw[Aqm];by_cases h:ts.contains i=true
  ·rw[if_pos h,kX ts j r,oM]
   by_cases h2:j=i
   ·subst h2;rw[if_pos h,if_pos h]
   ·rw[if_neg h2]
  ·rw[if_neg h,oM,oM,kX ts j r]
   by_cases h2:j=i
   ·subst h2;rw[if_pos rfl,if_pos rfl,if_neg h]
   ·rw[if_neg h2,if_neg h2]
def dF (j:Nat):List Nat->Bool
 | []=>false
 | i::r=>bif Nat.beq j i then true else dF j r
abbrev cU (n:Int):List AV:=[.int .i64 n]
section
variable {L:Lib} {k:List It} {tm:Tm} {own:AH} {Q:St->Prop} {l:List AI} {g9:List Nat} {d:Nat} {x i:AP} {kd:IntKind} {a:Int} {q:Bool} {α:Type} {es:List α} {enc:α->List AV} {z:Nat}
end
end Go.e9

namespace Go.e9
inductive A9 where
 | bx (cs:List AV)
 | rw (z:Nat) (es:List (List AV))
 | bs (z:Nat) (es:List (List AV))
 | mx (rows:List (Option (Nat × List (List AV))))
 | hx (i:Nat) (v:AV) (rows:List (Option (Nat × List (List AV))))
 | vw (w:List Nat) (rows:List (Option (Nat × List (List AV))))
abbrev Mem:=List (Nat × Nat × A9)
def l6:Mem->Nat->Option (Nat × A9)
 | [],_=>none
 | (k,s,c)::r,j=>bif Nat.beq j k then some (s,c) else l6 r j
def g8 (M:Mem) (k t:Nat):Option A9:=match l6 M k with
 | none=>none
 | some (_,c)=>match t with
  | 0=>some c
  | i+1=>match c with
   | .mx rows=>match rows[i]? with
    | some (some (z,es))=>some (.rw z es)
    | _=>none
   | .hx _ _ rows=>match rows[i]? with
    | some (some (z,es))=>some (.rw z es)
    | _=>none
   | .vw _ rows=>match rows[i]? with
    | some (some (z,es))=>some (.rw z es)
    | _=>none
   | _=>none
def ax (j:Nat):Mem->Mem
 | []=>[]
 | (k,s,c)::r=>bif Nat.beq j k then ax j r else (k,s,c)::ax j r
def tg:Tm->Nat->AV
 | [],_ => .any
 | (i,v)::r,j=>bif Nat.beq j i then v else tg r j
def bit (m i:Nat):Bool:=Nat.beq (Nat.land (Nat.shiftRight m i) 1) 1
def mask:Nat->List Nat->Nat
 | m,[]=>m
 | m,t::ts=>mask (Nat.lor m (Nat.shiftLeft 1 t)) ts
def Ay (m:Nat):Tm->Tm
 | []=>[]
 | (i,v)::r=>bif bit m i then Ay m r else (i,v)::Ay (Nat.lor m (Nat.shiftLeft 1 i)) r
def fN (n:Nat) (K:Nat->Prop):Prop:=match n with
 | 0=>K 0
 | k+1=>K (k+1)
def yi:AV->Bool
 | .int _ _=>true | .bool _=>true | .ib _=>true | .sl _ _=>true | .nil=>true
 | _=>false
def EG:List AV->Bool
 | []=>true
 | v::r=>bif yi v then EG r else false
def mH:List (List AV)->Bool
 | []=>true
 | v::r=>bif EG v then mH r else false
def aJ (s:Nat):AV->Bool
 | .row k _ _ _ _=>Nat.beq k s | .ptr k _ _ _=>Nat.beq k s
 | _=>false
def JC (s:Nat):List AV->Bool
 | []=>false
 | v::r=>bif aJ s v then true else JC s r
def OU (s:Nat):List (List AV)->Bool
 | []=>false
 | v::r=>bif JC s v then true else OU s r
def dK (s:Nat):AV->Bool
 | .agg cs=>JC s cs
 | .fn _ _ _ cs=>JC s cs
 | v=>aJ s v
def kR (s:Nat):List AV->Bool
 | []=>false
 | v::r=>bif dK s v then true else kR s r
def aK (s:Nat):AV->Bool
 | .m9 vs=>kR s vs
 | v=>dK s v
def JD (s:Nat):Tm->Bool
 | []=>false
 | (_,v)::r=>bif aK s v then true else JD s r
def HO (s:Nat):A9->Bool
 | .bx cs=>JC s cs
 | .rw _ _=>false
 | .bs _ es=>OU s es
 | .mx _=>false
 | .hx _ _ _=>false
 | .vw _ _=>false
def G5 (s:Nat):Mem->Bool
 | []=>false
 | (k,_,c)::r=>bif Nat.beq s k then true else bif HO s c then true else G5 s r
def cR (s:Nat):AV->Bool
 | .row k t _ _ _=>bif Nat.beq k s then (match t with|0=>false|_+1=>true) else false
 | .ptr k t _ _=>bif Nat.beq k s then (match t with|0=>false|_+1=>true) else false
 | _=>false
def bO (s:Nat):List AV->Bool
 | []=>false
 | v::r=>bif cR s v then true else bO s r
def gI (s:Nat):AV->Bool
 | .agg cs=>bO s cs
 | .fn _ _ _ cs=>bO s cs
 | v=>cR s v
def jI (s:Nat):List AV->Bool
 | []=>false
 | v::r=>bif gI s v then true else jI s r
def dZ (s:Nat):AV->Bool
 | .m9 vs=>jI s vs
 | v=>gI s v
def PL (s:Nat):Tm->Bool
 | []=>false
 | (_,v)::r=>bif dZ s v then true else PL s r
def jJ (s:Nat):List (List AV)->Bool
 | []=>false
 | v::r=>bif bO s v then true else jJ s r
def bN (s:Nat):A9->Bool
 | .bx cs=>bO s cs
 | .bs _ es=>jJ s es
 | _=>false
def JY (s:Nat):Mem->Bool
 | []=>false
 | (_,_,c)::r=>bif bN s c then true else JY s r
def used (k:Nat) (tm:Tm) (M:Mem):Bool:=bif G5 k M then true else JD k tm
def sK (tm:Tm) (M:Mem):List Nat->(Nat->Prop)->Prop
 | [],_=>False
 | k::r,K=>bif used k tm M then sK tm M r K else K k
def GG (s:Nat) (tm:Tm) (M:Mem) (K:Nat->Prop):Prop:=sK tm M [s,s+1000000,s+2000000,s+3000000] K
def fL:List AV->(List AV->Prop)->Prop
 | [],K=>K []
 | v::r,K=>fL r λ r'=>K (v::r')
def fV (v:AV) (K:AV->Prop):Prop:=match v with
 | .int k n=>K (.int k n) | .bool b=>K (.bool b) | .sl l es=>K (.sl l es) | .row s t z o n=>K (.row s t z o n)
 | .nil=>K .nil | .ptr s t i j=>K (.ptr s t i j) | .bu cs=>K (.bu cs) | .agg cs=>fL cs λ cs=>K (.agg cs)
 | .fn p f g cs=>fL cs λ cs=>K (.fn p f g cs)
 | .m9 vs=>fL vs λ vs=>K (.m9 vs) | .ib c=>K (.ib c) | .any=>False
def fC (v:AV) (K:List AV->Prop):Prop:=match v with
 | .agg cs=>fL cs K
 | .fn _ _ _ _=>False
 | .m9 _=>False
 | .any=>False
 | v=>fV v λ v=>K [v]
def fB (b:Bool) (K:Bool->Prop):Prop:=match b with
 | true=>K true
 | false=>K false
def fT:Tm->(Tm->Prop)->Prop
 | [],K=>K []
 | (i,v)::r,K=>fT r λ r'=>K ((i,v)::r')
def fM:Mem->(Mem->Prop)->Prop
 | [],K=>K []
 | (k,s,c)::r,K=>fM r λ r'=>K ((k,s,c)::r')
def fF (v:AV) (K:AV->Prop):Prop:=match v with
 | .int k n=>K (.int k n) | .bool b=>K (.bool b) | .sl l es=>K (.sl l es) | .row s t z o n=>K (.row s t z o n)
 | .nil=>K .nil | .ptr s t i j=>K (.ptr s t i j) | .ib c=>K (.ib c)|_=>False
def f2 (v:AV) (K:AV->Prop):Prop:=match v with
 | .int k n=>K (.int k n) | .bool b=>K (.bool b) | .sl l es=>K (.sl l es) | .row s t z o n=>K (.row s t z o n)
 | .nil=>K .nil | .ptr s t i j=>K (.ptr s t i j) | .ib c=>K (.ib c) | .agg cs=>fL cs λ cs=>K (.agg cs) | .fn p f g cs=>fL cs λ cs=>K (.fn p f g cs)|_=>False
def wj (agg:Bool) (ds:List AV) (K:AV->Prop):Prop:=match agg with
 | true=>K (.agg ds)
 | false=>match ds with
  | [c]=>fF c K
  | _=>False
def AF (p q A B:Prop):Prop:=(p->A)/\(q->B)
def AM (p A:Prop):Prop:=p/\A
def AC (op:BinOp) (k:IntKind) (a:Int) (k':IntKind) (b:Int) (K:AV->Prop):Prop := ∃ v,DW op k a k' b=some v/\K v
def CK (op:UnOp) (k:IntKind) (n:Int) (K:AV->Prop):Prop := ∃ v,fQ op (.int k n)=some v/\K v
def AR (k:IntKind) (n:Int) (K:Int->Prop):Prop:=K (k.wrap n)
def AW (es:List (List AV)) (a:Int) (z:Nat) (K:List AV->Prop):Prop:=0<=a /\ ∃ cs,es[a.toNat]? = some cs/\cs.length=z/\K cs
def BD (es:List (List AV)) (i j n:Nat) (K:List AV->Prop):Prop := ∃ cs ds,es[i]? = some cs/\part cs j n=some ds/\K ds
def A7 (es:List (List AV)) (i j:Nat) (vs:List AV) (K:List (List AV)->Prop):Prop := ∃ cs,es[i]? = some cs/\j+vs.length<=cs.length/\K (es.set i (splice cs j vs))
def BW (a b:Int) (bytes:Nat) (zero:List AV) (K:List (List AV)->Nat->Prop):Prop:=(0<=a/\a<=b/\b*bytes<=DX/\b<=9223372036854775807)/\K (List.replicate a.toNat zero) a.toNat
def AQ (es:List (List AV)) (K:Nat->Prop):Prop:=K es.length
def BT (es:List (List AV)) (len:Nat) (ys:List (List AV)) (z bytes:Nat) (K:List (List AV)->Nat->Prop):Prop :=
 len<=es.length/\(∀ e∈ys,e.length=z)/\(len+ys.length)*bytes<=DX/\len+ys.length<=9223372036854775807/\K (es.take len++ys) (len+ys.length)
def CD (ys:List (List AV)) (z bytes:Nat) (K:List (List AV)->Nat->Prop):Prop :=
 (∀ e∈ys,e.length=z)/\ys.length*bytes<=DX/\ys.length<=9223372036854775807/\K ys ys.length
def DB (es:List (List AV)) (off len:Nat) (ys:List (List AV)) (z:Nat) (K:List (List AV)->Nat->Prop):Prop :=
 off+len<=es.length/\(∀ e∈ys,e.length=z)/\K (es.take off++ys.take len++es.drop (off+min ys.length len)) (min ys.length len)
def BP (es:List (List AV)) (off len:Nat) (K:List (List AV)->Prop):Prop:=off+len<=es.length/\K ((es.drop off).take len)
def F7:List AV->Bool
 | []=>true
 | v::r=>match v with
  | .int _ _=>F7 r | .bool _=>F7 r | .ib _=>F7 r | .sl _ _=>F7 r
  | _=>false
def nl:AV->AV
 | .nil => .sl false []
 | v=>v
def Y6:List AV->Bool
 | []=>true
 | v::r=>match v with
  | .int _ _=>Y6 r | .bool _=>Y6 r | .ib _=>Y6 r | .sl _ _=>Y6 r | .nil=>Y6 r
  | _=>false
def A4 (es:List (List AV)) (off len:Nat) (K:List (List AV)->Prop):Prop:=off+len<=es.length/\(∀ e∈es,Y6 e=true)/\K (((es.drop off).take len).map λ e=>e.map nl)
def B4 (rows:List (Option (Nat × List (List AV)))) (i:Nat) (K:Option (Nat × List (List AV))->Prop):Prop := ∃ r,rows[i]? = some r/\K r
def BK (rows:List (Option (Nat × List (List AV)))) (i:Nat) (K:Nat->List (List AV)->Prop):Prop := ∃ z es,rows[i]? = some (some (z,es))/\K z es
def CF (rows:List (Option (Nat × List (List AV)))) (i z:Nat) (es:List (List AV)) (K:List (Option (Nat × List (List AV)))->Prop):Prop:=i<rows.length/\K (rows.set i (some (z,es)))
def CI (rows:List (Option (Nat × List (List AV)))) (i z:Nat) (es es':List (List AV)) (K:List (Option (Nat × List (List AV)))->Prop):Prop:=es'.length=es.length/\K (rows.set i (some (z,es')))
def CN (a b:Int) (bytes:Nat) (K:List (Option (Nat × List (List AV)))->Nat->Prop):Prop:=(0<=a/\a<=b/\b*bytes<=DX/\b<=9223372036854775807)/\K (List.replicate a.toNat none) a.toNat
def CX (rows:List (Option (Nat × List (List AV)))) (len:Nat) (r:Option (Nat × List (List AV))) (bytes:Nat) (K:List (Option (Nat × List (List AV)))->Nat->Prop):Prop :=
 len=rows.length/\(len+1)*bytes<=DX/\len+1<=9223372036854775807/\K (rows++[r]) (len+1)
def fJ (q:Bool):List (Option (Nat × List (List AV)))->List (List AV)
 | []=>[]
 | none::r=>[.sl false []]::fJ q r
 | some (_,es)::r=>[.sl q es]::fJ q r
def CJ (q:Bool) (rows:List (Option (Nat × List (List AV)))) (off len:Nat) (K:List (List AV)->Prop):Prop :=
 off=0/\len=rows.length/\(∀ z es,some (z,es)∈rows -> ∀ e∈es,F7 e=true)/\K (fJ q rows)
def BO (lo hi:Option Int) (len:Nat) (K:Nat->Nat->Prop):Prop :=
 ∃ a h:Nat,(match lo with|none=>a=0|some x=>0<=x/\a=x.toNat)/\(match hi with|none=>h=len|some x=>0<=x/\x<=len/\h=x.toNat)/\a<=h/\K a h
def CE (z:Nat) (es:List (List AV)) (lo hi:Option Int) (K:List (List AV)->Prop):Prop:=(∀ e∈es,e.length=z)/\BO lo hi es.length λ a h=>K ((es.take h).drop a)
def AB (L:Lib) (f:Nat) (vs:List AV) (K:AV->Prop):Prop := ∃ r,Ev L f vs r/\K r
def XG (n:Nat) (cs ds:List AV) (K:Bool->Prop):Prop := ∃ a b,I1 cs=some a/\I1 ds=some b/\a.length=n/\b.length=n/\K (decide (a=b))
def rJ:List AV->Bool
 | []=>true
 | .int _ _::r=>rJ r
 | _=>false
def CM (L:Lib) (f:Nat) (vs:List AV) (K:Nat->List (List AV)->Nat->Prop):Prop := ∃ z es n,cI L f vs z es/\n=es.length/\K z es n
abbrev F5:=Nat->Nat->Nat × Nat
def BA (σ:F5):AV->AV
 | .row k t z o n => .row (σ k t).1 (σ k t).2 z o n
 | .ptr k t i j => .ptr (σ k t).1 (σ k t).2 i j
 | v=>v
def BR (σ:F5):AV->AV
 | .agg cs => .agg (cs.map (BA σ))
 | .fn p f g cs => .fn p f g (cs.map (BA σ))
 | v=>BA σ v
def BI (σ:F5):AV->AV
 | .m9 vs => .m9 (vs.map (BR σ))
 | v=>BR σ v
def B9 (σ:F5) (k:Nat):Nat->List (Option (Nat × List (List AV)))->List (List AV)
 | _,[]=>[]
 | i,none::r=>[.nil]::B9 σ k (i+1) r
 | i,some (z,es)::r=>[.row (σ k (i+1)).1 (σ k (i+1)).2 z 0 es.length]::B9 σ k (i+1) r
def A9.m5 (σ:F5) (k:Nat):A9->ED
 | .bx cs=>⟨cs.length,[cs.map (BA σ)]⟩
 | .rw z es=>⟨z,es⟩
 | .bs z es=>⟨z,es.map λ cs=>cs.map (BA σ)⟩
 | .mx rows=>⟨1,B9 σ k 0 rows⟩
 | .hx i v rows=>⟨1,(B9 σ k 0 rows).set i [v]⟩
 | .vw w rows=>⟨1,w.map λ t=>((B9 σ k 0 rows)[t]?).getD []⟩
def A9.ri:A9->Bool
 | .bx _=>false
 | _=>true
def E3 (s:Nat):Bool:=Nat.blt s 900000
structure TW (σ:F5) (own:AH) (M:Mem):Prop where
 site : ∀ k s c,l6 M k=some (s,c)->(σ k 0).1=s
 m5 : ∀ k t c,g8 M k t=some c->(own (σ k t).1).m5 (σ k t).2=some (c.m5 σ k)
 old : ∀ k t c,g8 M k t=some c->(σ k t).2<(own (σ k t).1).n6
 inj : ∀ k t k' t' c c',g8 M k t=some c->g8 M k' t'=some c'->σ k t=σ k' t'->k=k'/\t=t'
 low : ∀ k t c,g8 M k t=some c->c.ri=true->E3 (σ k t).1=true
structure RX (σ:F5) (tm:Tm) (M:Mem) (st:St):Prop where
 tm : ∀ j,tg tm j = .any\/m8 st.tm j=BI σ (tg tm j)
 sat:TW σ st.own M
def SQ (Q:Tm->Mem->Prop) (st:St):Prop := ∃ σ tm M,RX σ tm M st/\Q tm M
def AA (L:Lib) (k:List It) (tm:Tm) (M:Mem) (Q:Tm->Mem->Prop):Prop := ∀ σ st,RX σ tm M st->AK L k st (SQ Q)
def Uu (L:Lib) (l:List AI) (k:List It) (tm:Tm) (M:Mem) (Q:Tm->Mem->Prop):Prop := ∀ σ st,RX σ tm M st->AO L l k st (SQ Q)
def A8 (L:Lib) (f:Nat) (vs:List AV) (tm:Tm) (M:Mem) (K:AV->Mem->Prop):Prop :=
 ∀ σ own,TW σ own M -> ∃ r w8 σ' M',GU L f (vs.map (BI σ)) own (BI σ' r) w8/\TW σ' w8 M'/\(∀ j,BI σ' (tg tm j)=BI σ (tg tm j))/\K r M'
def Ahh (L:Lib) (s f key:Nat) (rest:List AV) (M:Mem) (K:AV->Mem->Prop):Prop :=
 ∃ (cells kp:List AV) (kd:IntKind) (n:Int),l6 M key=some (s,.bx cells)/\EG cells=true/\EG kp=true/\(∀ (t:Nat) (q:CH),q.m5 t=some ⟨cells.length,[cells]⟩->EvS L s f (.ptr s t 0 0::rest) q (.int kd n) (q.bg t (some ⟨kp.length,[kp]⟩)))/\K (.int kd n) ((key,s,.bx kp)::M)
def cv:AV->AV
 | .agg cs=>bif EG cs then .agg cs else .any
 | .m9 [] => .m9 []
 | .bu _ => .any
 | .fn p f g [] => .fn p f g []
 | v=>bif yi v then v else .any
def ex (tm:Tm):AP->AV
 | .t n=>tg tm n
 | .c v=>cv v
def kq (k k':IntKind):Bool:=decide (k=k')
def uT (op:BinOp) (k:IntKind) (a:Int) (k':IntKind) (b:Int) (K:AV->Prop):Prop:=match op with
 | .lss=>bif kq k k' then AF (a<b) (b<=a) (K (.bool true)) (K (.bool false)) else False
 | .leq=>bif kq k k' then AF (a<=b) (b<a) (K (.bool true)) (K (.bool false)) else False
 | .gtr=>bif kq k k' then AF (b<a) (a<=b) (K (.bool true)) (K (.bool false)) else False
 | .geq=>bif kq k k' then AF (b<=a) (a<b) (K (.bool true)) (K (.bool false)) else False
 | .eql=>bif kq k k' then AF (a=b) (a≠b) (K (.bool true)) (K (.bool false)) else False
 | .neq=>bif kq k k' then AF (a≠b) (a=b) (K (.bool true)) (K (.bool false)) else False
 | op=>AC op k a k' b K
noncomputable def iC (mx:Bool) (k:IntKind) (K:AV->Prop) (a:Int) (l:List AV):Prop :=
 List.rec (motive:=λ_=>Int->Prop) (λ a=>K (.int k a)) (λ v _ ih a=>match v with
  | .int _ b=>bif mx then AF (a<b) (b<=a) (ih b) (ih a) else AF (b<a) (a<=b) (ih b) (ih a)
  | _=>False) l a
def Cg:List AV->Nat->AV
 | [],_ => .any
 | v::_,0=>v
 | _::r,n+1=>Cg r n
def fA (s:Nat):List Nat->Bool
 | []=>true
 | g9 => !(dF s g9)
def iD:List Nat->Bool
 | []=>true
 | s::r=>bif E3 s then false else iD r
def Uo (M:Mem) (k t:Nat) (K:Nat->List (List AV)->Prop):Prop:=match l6 M k with
 | some (_,c)=>match t with
  | 0=>match c with
   | .rw z es=>K z es
   | _=>False
  | i+1=>match c with
   | .mx rows=>BK rows i K
   | _=>False
 | none=>False
def qV (M:Mem) (v:AV) (K:List (List AV)->Prop):Prop:=match v with
 | .sl _ es=>K es
 | .nil=>K []
 | .ib (.bool _)=>K []
 | .row key t z off len=>Uo M key t λ z' es=>bif Nat.beq z z' then BP es off len K else False
 | _=>False
def iP (q:Bool) (M:Mem) (g9:List Nat) (v:AV) (K:AV->Prop):Prop:=match v with
 | .int k n=>K (.int k n)
 | .bool b=>K (.bool b)
 | .sl l es=>K (.sl l es)
 | .ib c=>K (.ib c)
 | .nil=>K (.sl false [])
 | .row key t z off len=>match l6 M key with
  | some (s,.rw z' es)=>match t with
   | 0=>bif Nat.beq z z' then bif fA s g9 then A4 es off len λ es=>K (.sl q es) else False else False
   | _+1=>False
  | some (_,.mx rows)=>match t with
   | 0=>False
   | i+1=>match g9 with
    | []=>BK rows i λ z' es=>bif Nat.beq z z' then A4 es off len λ es=>K (.sl q es) else False
    | b::r=>bif iD (b::r) then BK rows i λ z' es=>bif Nat.beq z z' then A4 es off len λ es=>K (.sl q es) else False else False
  | _=>False
 | _=>False
noncomputable def tG (q:Bool) (M:Mem) (g9:List Nat) (l:List AV):(List AV->Prop)->Prop :=
 List.rec (motive:=λ_=>(List AV->Prop)->Prop) (λ K=>K []) (λ v _ ih K=>iP q M g9 v λ v'=>ih λ r'=>K (v'::r')) l
noncomputable def Mq (q:Bool) (M:Mem) (g9:List Nat) (l:List (List AV)):(List (List AV)->Prop)->Prop :=
 List.rec (motive:=λ_=>(List (List AV)->Prop)->Prop) (λ K=>K []) (λ v _ ih K=>tG q M g9 v λ v'=>ih λ r'=>K (v'::r')) l
noncomputable def oD (q:Bool) (M:Mem) (g9:List Nat) (v:AV) (K:AV->Prop):Prop:=match v with
 | .row key 0 z off len=>match l6 M key with
  | some (s,.bs z' es)=>bif Nat.beq z z' then bif fA s g9 then bif Nat.beq off 0 then AM (len=es.length) (Mq q M g9 es λ es=>K (.sl q es)) else False else False else False
  | some (_,.mx rows)=>match g9 with
   | []=>bif Nat.beq z 1 then CJ q rows off len λ es=>K (.sl q es) else False
   | _::_=>False
  | _=>iP q M g9 (.row key 0 z off len) K
 | v=>iP q M g9 v K
noncomputable def Up (q:Bool) (M:Mem) (g9:List Nat) (l:List AV):(List AV->Prop)->Prop :=
 List.rec (motive:=λ_=>(List AV->Prop)->Prop) (λ K=>K []) (λ v _ ih K=>oD q M g9 v λ v'=>ih λ r'=>K (v'::r')) l
noncomputable def dN (q:Bool) (M:Mem) (g9:List Nat) (v:AV) (K:AV->Prop):Prop:=match v with
 | .agg cs=>Up q M g9 cs λ cs=>K (.agg cs)
 | v=>oD q M g9 v K
noncomputable def oE (tm:Tm) (M:Mem) (g9:List Nat) (l:List AP):(List AV->Prop)->Prop :=
 List.rec (motive:=λ_=>(List AV->Prop)->Prop) (λ K=>K []) (λ x _ ih K=>dN true M g9 (ex tm x) λ v=>ih λ vs=>K (v::vs)) l
noncomputable def tH (M:Mem) (g9:List Nat) (v:AV) (K:AV->Prop):Prop:=match v with
 | .nil=>K .nil
 | v=>dN true M g9 v K
noncomputable def Mr (tm:Tm) (M:Mem) (g9:List Nat) (l:List AP):(List AV->Prop)->Prop :=
 List.rec (motive:=λ_=>(List AV->Prop)->Prop) (λ K=>K []) (λ x _ ih K=>tH M g9 (ex tm x) λ v=>ih λ vs=>K (v::vs)) l
noncomputable def jU (tm:Tm) (l:List AP):(List AV->Prop)->Prop :=
 List.rec (motive:=λ_=>(List AV->Prop)->Prop) (λ K=>K []) (λ x _ ih K=>fV (ex tm x) λ v=>ih λ vs=>K (v::vs)) l
def rU (tm:Tm) (o:Option AP) (K:Option Int->Prop):Prop:=match o with
 | none=>K none
 | some x=>match ex tm x with
  | .int _ n=>K (some n)
  | _=>False
def nF (es:List (List AV)) (K:Nat->Prop):Prop:=match es with
 | []=>K 0
 | [_]=>K 1
 | [_,_]=>K 2
 | [_,_,_]=>K 3
 | [_,_,_,_]=>K 4
 | es=>K es.length
noncomputable def uW (tm:Tm) (z:Nat) (l:List AP):(List (List AV)->Prop)->Prop :=
 List.rec (motive:=λ_=>(List (List AV)->Prop)->Prop) (λ K=>K []) (λ x _ ih K=>fC (ex tm x) λ cs=>bif Nat.beq cs.length z then ih λ es=>K (cs::es) else False) l
noncomputable def xQ (tm:Tm) (ps:List (Nat × Nat × AP)):List AV->(List AV->Prop)->Prop :=
 List.rec (motive:=λ_=>List AV->(List AV->Prop)->Prop) (λ cells K=>K cells) (λ p _ ih cells K=>fC (ex tm p.2.2) λ vs=>bif Nat.beq vs.length p.2.1 then bif Nat.ble (p.1+p.2.1) cells.length then fL (splice cells p.1 vs) λ cells=>ih cells K else False else False) ps
def eH (tm:Tm):List AP->List AV
 | []=>[]
 | x::r=>ex tm x::eH tm r
def gD (tb:List Nat) (n:Int) (K:Nat->Prop):Prop:=0<=n /\ ∃ v,tb[n.toNat]? = some v/\K v
noncomputable def zQ (tm:Tm) (l:List AP):(List AV->Prop)->Prop :=
 List.rec (motive:=λ_=>(List AV->Prop)->Prop) (λ K=>K []) (λ x _ ih K=>fF (ex tm x) λ v=>ih λ cs=>K (v::cs)) l
def zW:AV->Bool
 | .agg _=>false | .fn _ _ _ _=>false | .m9 _=>false | .any=>false
 | _=>true
def nN:List AV->Bool
 | []=>true
 | v::r=>bif zW v then nN r else false
def gE (M:Mem) (v:AV):Option (Nat × Option (Nat × Nat × Nat)):=match v with
 | .row ky 0 1 0 1=>match l6 M ky with
  | some (_,.bs 1 [[.row k2 0 z 0 n]])=>some (ky,some (k2,z,n))
  | some (_,.rw 1 [[.nil]])=>some (ky,none)
  | _=>none
 | _=>none
def nD (z:Nat):List (List AV)->Bool
 | []=>true
 | e::r=>bif Nat.beq e.length z then nD z r else false
def uP (tm:Tm) (M:Mem) (s z bytes:Nat) (x y:AP) (K:AV->Mem->Prop):Prop:=match ex tm y with
 | .row ky 0 zy 0 ny=>match l6 M ky with
  | some (_,.bs z2 od)=>bif Nat.beq zy z then bif Nat.beq z2 z then bif Nat.beq ny od.length then bif nD z od then (match ex tm x with
   | .nil=>bif E3 s then nF od λ n=>AM (n*bytes<=140737488355328/\n<=9223372036854775807) (GG s tm M λ k=>K (.row k 0 z 0 n) ((k,s,.bs z od)::M)) else False
   | .row kx 0 zx 0 len=>bif Nat.beq zx z then (match l6 M kx with
    | some (s',.bs z1 Ae)=>bif Nat.beq z1 z then bif Nat.beq len Ae.length then fM (ax kx M) λ M'=>nF (Ae++od) λ n=>AM (n*bytes<=140737488355328/\n<=9223372036854775807) (GG s tm M λ k=>K (.row k 0 z 0 n) ((k,s',.bs z (Ae++od))::M')) else False else False
    | _=>False) else False
   | _=>False) else False else False else False else False
  | _=>False
 | _=>False
def Uq (tm:Tm) (M:Mem) (K:AV->Mem->Prop) (n:Nat) (x v:AP):Prop:=match ex tm x with
 | .ptr key t i j=>fC (ex tm v) λ vs=>bif Nat.beq vs.length n then (match l6 M key with
  | some (s,c)=>match t with
   | 0=>match c with
    | .bx cs=>bif Nat.beq i 0 then bif Nat.ble (j+vs.length) cs.length then fL (splice cs j vs) λ jq=>K (.m9 []) ((key,s,.bx jq)::M) else False else False
    | .rw z es=>bif EG vs then A7 es i j vs λ es'=>K (.m9 []) ((key,s,.rw z es')::M) else False
    | .bs _ _=>False
    | .mx rows=>match vs with
     | [.row dv 0 z 0 m]=>bif Nat.beq key dv then False else bif PL key tm then False else bif JY key M then False else bif Nat.beq j 0 then (match l6 M dv with
      | some (_,.rw z' es)=>bif Nat.beq z z' then fM (ax dv M) λ M'=>AM (m=es.length) (CF rows i z es λ bj=>K (.m9 []) ((key,s,.mx bj)::M')) else False
      | _=>False) else False
     | [.row dv (t2+1) z 0 m]=>bif Nat.beq key dv then bif Nat.beq j 0 then BK rows t2 λ z' es=>bif Nat.beq z z' then AM (m=es.length/\i<rows.length) (K (.m9 []) ((key,s,.vw ((List.range rows.length).set i t2) rows)::M)) else False else False else False
     | _=>False
    | .hx i0 _ rows=>match vs with
     | [.row dv 0 z 0 m]=>bif Nat.beq key dv then False else bif PL key tm then False else bif JY key M then False else bif Nat.beq j 0 then (match l6 M dv with
      | some (_,.rw z' es)=>bif Nat.beq z z' then fM (ax dv M) λ M'=>AM (i=i0/\m=es.length) (CF rows i z es λ bj=>K (.m9 []) ((key,s,.mx bj)::M')) else False
      | _=>False) else False
     | _=>False
    | .vw w rows=>match vs with
     | [.row dv (t2+1) z 0 m]=>bif Nat.beq key dv then bif Nat.beq j 0 then BK rows t2 λ z' es=>bif Nat.beq z z' then AM (m=es.length/\i<w.length /\ ∀ t∈w,t<rows.length) (K (.m9 []) ((key,s,.vw (w.set i t2) rows)::M)) else False else False else False
     | _=>False
   | i'+1=>match c with
    | .mx rows=>bif EG vs then BK rows i' λ z es=>A7 es i j vs λ es'=>CI rows i' z es es' λ bj=>K (.m9 []) ((key,s,.mx bj)::M) else False
    | _=>False
  | none=>False) else False
 | _=>False
def BS (r:AV) (K:AV->Prop):Prop:=(TT r\/iY r)/\K (YD r)
noncomputable def XE (L:Lib) (tm:Tm) (M:Mem) (g9:List Nat) (K:AV->Mem->Prop):D8->Prop
 | .c6 x=>fV (ex tm x) λ v=>K v M
 | .ff s z=>bif E3 s then GG s tm M λ k=>K (.row k 0 z 0 0) ((k,s,.rw z [])::M) else False
 | .pick c a b=>match ex tm c with
  | .bool true=>fV (ex tm a) λ v=>K v M
  | .bool false=>fV (ex tm b) λ v=>K v M
  | _=>False
 | .bin op x y=>match ex tm x,ex tm y with
  | .int k a,.int k' b=>uT op k a k' b λ v=>K v M
  | _,_=>False
 | .wk ne n x y=>match ex tm x,ex tm y with
  | .agg cs,.agg ds=>XG n cs ds λ b=>fB (bif ne then !b else b) λ c=>K (.bool c) M
  | _,_=>False
 | .beq ne x y=>match ex tm x,ex tm y with
  | .bool a,.bool b=>fB (bif ne then !(a == b) else a == b) λ c=>K (.bool c) M
  | _,_=>False
 | .un op x=>match ex tm x with
  | .int k n=>CK op k n λ v=>K v M
  | .bool b=>match op with
   | .not=>fB (!b) λ c=>K (.bool c) M
   | _=>False
  | _=>False
 | .conv k x=>match ex tm x with
  | .int _ n=>AR k n λ v=>K (.int k v) M
  | _=>False
 | .box s x=>fC (ex tm x) λ cs=>GG s tm M λ k=>K (.ptr k 0 0 0) ((k,s,.bx cs)::M)
 | .alloc s zero=>bif EG zero then (GG s tm M λ k=>K (.ptr k 0 0 0) ((k,s,.bx zero)::M)) else False
 | .build zero parts=>bif EG zero then xQ tm parts zero λ cs=>K (.agg cs) M else False
 | .m4 s z parts=>bif E3 s then uW tm z parts λ es=>nF es λ n=>GG s tm M λ k=>bif mH es then K (.row k 0 z 0 n) ((k,s,.rw z es)::M) else K (.row k 0 z 0 n) ((k,s,.bs z es)::M) else False
 | .a7 x off=>match ex tm x with
  | .ptr key t i j=>K (.ptr key t i (j+off)) M
  | .bu cs=>fL (cs.drop off) λ cs=>K (.bu cs) M
  | _=>False
 | .ry x off n agg=>match ex tm x with
  | .agg cs=>match part cs off n with
   | some ds=>fL ds λ ds=>wj agg ds λ v=>K v M
   | none=>False
  | _=>False
 | .b9 arr z x i=>match ex tm i with
  | .int _ n=>match arr,ex tm x with
   | some len,.ptr key t i' j=>AM (0<=n/\n<(len:Int)) (K (.ptr key t i' (j+n.toNat*z)) M)
   | some len,.bu cs=>AM (0<=n/\n<(len:Int)) (fL (cs.drop (n.toNat*z)) λ cs=>K (.bu cs) M)
   | none,.row key t z' off len=>bif Nat.beq z' z then AM (0<=n/\n<(len:Int)) (K (.ptr key t (off+n.toNat) 0) M) else False
   | none,.sl _ es=>AW es n z λ cs=>K (.bu cs) M
   | _,_=>False
  | _=>False
 | .ld agg n x=>match ex tm x with
  | .ptr key t i j=>match l6 M key with
   | some (s,c)=>match t with
    | 0=>bif fA s g9 then (match c with
     | .bx cs=>bif Nat.beq i 0 then (match part cs j n with
      | some ds=>fL ds λ ds=>wj agg ds λ v=>K v M
      | none=>False) else False
     | .rw _ es=>BD es i j n λ ds=>fL ds λ ds=>bif EG ds then wj agg ds λ v=>K v M else False
     | .bs _ es=>(match es[i]? with
      | some cs=>(match part cs j n with
       | some ds=>fL ds λ ds=>wj agg ds λ v=>K v M
       | none=>False)
      | none=>False)
     | .mx rows=>bif Nat.beq j 0 then bif Nat.beq n 1 then B4 rows i λ r=>match r with
      | some (z,es)=>wj agg [.row key (i+1) z 0 es.length] λ v=>K v M
      | none=>wj agg [.nil] λ v=>K v M else False else False
     | .hx _ _ _=>False
     | .vw _ _=>False) else False
    | i'+1=>match c,g9 with
     | .mx rows,[]=>BK rows i' λ_ es=>BD es i j n λ ds=>fL ds λ ds=>bif EG ds then wj agg ds λ v=>K v M else False
     | .mx rows,b::r=>bif iD (b::r) then BK rows i' λ_ es=>BD es i j n λ ds=>fL ds λ ds=>bif EG ds then wj agg ds λ v=>K v M else False else False
     | _,_=>False
   | none=>False
  | .bu cs=>match part cs 0 n with
   | some ds=>fL ds λ ds=>bif EG ds then wj agg ds λ v=>K v M else False
   | none=>False
  | _=>False
 | .st n x v=>Uq tm M K n x v
 | .rm s n x v=>match ex tm x with
  | .ptr key 0 _ _=>(match l6 M key with
   | some (s',_)=>bif Nat.beq s' s then Uq tm M K n x v else False
   | none=>False)
  | _=>False
 | .w9 f xs=>jU tm xs λ vs=>bif vs.all dq then AB L f (vs.map Av) λ r=>BS r λ r=>K r M else False
 | .mk s z bytes zero l c=>match ex tm l,ex tm c with
  | .int _ a,.int _ b=>bif Nat.beq zero.length z then bif EG zero then match zero with
   | [.nil]=>bif E3 s then CN a b bytes λ rows n=>GG s tm M λ k=>K (.row k 0 z 0 n) ((k,s,.mx rows)::M) else False
   | zero=>bif E3 s then (BW a b bytes zero λ es n=>GG s tm M λ k=>K (.row k 0 z 0 n) ((k,s,.rw z es)::M)) else False else False else False
  | _,_=>False
 | .ke z x lo hi=>rU tm lo λ lo=>rU tm hi λ hi=>match ex tm x with
  | .sl l es=>CE z es lo hi λ es=>K (.sl l es) M
  | .row key t z' off len=>bif Nat.beq z' z then BO lo hi len λ a h=>K (.row key t z (off+a) (h-a)) M else False
  | .nil=>(match lo,hi with
   | none,none=>K .nil M
   | some a,none=>AM (a=0) (K .nil M)
   | none,some h=>AM (h=0) (K .nil M)
   | some a,some h=>AM (a=0/\h=0) (K .nil M))
  | _=>False
 | .ext x i=>match ex tm x with
  | .m9 vs=>f2 (Cg vs i) λ v=>K v M
  | _=>False
 | .len x=>match ex tm x with
  | .sl _ es=>AQ es λ n=>K (.int .i64 (n:Int)) M
  | .nil=>K (.int .i64 0) M
  | .row _ _ _ _ n=>K (.int .i64 (n:Int)) M
  | _=>False
 | .mm mx xs=>match eH tm xs with
  | .int k a::r=>iC mx k (λ v=>K v M) a r
  | _=>False
 | .app s z bytes x y=>bif Nat.ble 800000 s then uP tm M s z bytes x y K else (
  match gE M (ex tm y) with
  | some (ky,some (k2,z2,n2))=>match ex tm x with
   | .row key 0 z' off len=>bif Nat.beq off 0 then bif Nat.beq z' 1 then bif Nat.beq z 1 then bif Nat.beq key k2 then False else bif Nat.beq key ky then False else bif Nat.beq k2 ky then False else (match l6 M k2 with
    | some (_,.rw z3 es)=>bif Nat.beq z2 z3 then (match l6 M key with
     | some (s',.mx rows)=>fM (ax key (ax k2 (ax ky M))) λ M'=>AM (n2=es.length) (CX rows len (some (z2,es)) bytes λ bj n=>GG s tm M λ k=>K (.row k 0 z 0 n) ((k,s',.mx bj)::M'))
     | _=>False) else False
    | _=>False) else False else False else False
   | .nil=>bif E3 s then bif Nat.beq z 1 then (match l6 M k2 with
    | some (_,.rw z3 es)=>bif Nat.beq z2 z3 then fM (ax k2 M) λ M'=>AM (n2=es.length/\bytes<=140737488355328) (GG s tm M λ k=>K (.row k 0 z 0 1) ((k,s,.mx [some (z2,es)])::M')) else False
    | _=>False) else False else False
   | _=>False
  | some (ky,none)=>match ex tm x with
   | .row key 0 z' off len=>bif Nat.beq off 0 then bif Nat.beq z' 1 then bif Nat.beq z 1 then bif Nat.beq key ky then False else (match l6 M key with
     | some (s',.mx rows)=>fM (ax key M) λ M'=>CX rows len none bytes λ bj n=>GG s tm M λ k=>K (.row k 0 z 0 n) ((k,s',.mx bj)::M')
     | _=>False) else False else False else False
   | .nil=>bif E3 s then bif Nat.beq z 1 then AM (bytes<=140737488355328) (GG s tm M λ k=>K (.row k 0 z 0 1) ((k,s,.mx [none])::M)) else False else False
   | _=>False
  | none=>qV M (ex tm y) λ ys=>match ex tm x with
   | .row key 0 z' off len=>bif Nat.beq off 0 then bif Nat.beq z' z then (match l6 M key with
    | some (s',.rw mg es)=>bif Nat.beq mg z then fM (ax key M) λ M'=>(BT es len ys z bytes λ es' n=>GG s tm M λ k=>K (.row k 0 z 0 n) ((k,s',.rw z es')::M')) else False
    | _=>False) else False else False
   | .row key (i+1) z' off len=>bif Nat.beq off 0 then bif Nat.beq z' z then (match l6 M key with
    | some (sk,.mx rows)=>fM (ax key M) λ M'=>BK rows i λ mg es=>bif Nat.beq mg z then (BT es len ys z bytes λ es' n => ∀ s' v,GG s tm M λ k=>K (.row k 0 z 0 n) ((k,s',.rw z es')::(key,sk,.hx i v (rows.set i none))::M')) else False
    | _=>False) else False else False
   | .nil=>bif E3 s then CD ys z bytes λ es n=>GG s tm M λ k=>K (.row k 0 z 0 n) ((k,s,.rw z es)::M) else False
   | _=>False)
 | .call f xs=>oE tm M g9 xs λ vs=>AB L f vs λ r=>K r M
 | .m7 f xs=>jU tm xs λ vs=>A8 L f vs tm M K
 | .bm s f xs=>bif E3 s then Mr tm M g9 xs λ vs=>CM L f vs λ z es n=>GG s tm M λ k=>K (.row k 0 z 0 n) ((k,s,.rw z es)::M) else False
 | .xm ne x=>match ex tm x with
  | .nil=>fB (xor true ne) λ c=>K (.bool c) M
  | .ib (.bool b)=>fB (xor b ne) λ c=>K (.bool c) M
  | .sl _ es=>AM (es≠[]) (fB (xor false ne) λ c=>K (.bool c) M)
  | .row _ _ _ _ n=>AM (0<n) (fB (xor false ne) λ c=>K (.bool c) M)
  | _=>False
 | .bad=>False
 | .ju x=>match ex tm x with
  | .nil=>K (.int .i64 0) M
  | _=>False
 | .ru s z bytes x y=>match ex tm x,ex tm y with
  | .nil,.int _ n=>bif E3 s then AM (0<n/\n*bytes<=DX/\n<=9223372036854775807) (GG s tm M λ k=>K (.row k 0 z 0 n.toNat) ((k,s,.rw z [])::M)) else False
  | _,_=>False
 | .gj s f xs=>jU tm xs λ vs=>match vs with
  | .ptr key 0 0 0::rest=>bif rJ rest then Ahh L s f key rest M K else False
  | _=>False
 | .lu tb x=>match ex tm x with
  | .int _ n=>gD tb n λ v=>K (.int .u8 v) M
  | _=>False
 | .um p f xs=>zQ tm xs λ cs=>K (.fn (p&&cs.isEmpty) f (L.num f) cs) M
 | .wi f x=>match ex tm x with
  | .agg (c::cs)=>K (.fn true f (L.num f) (c::cs)) M
  | _=>False
 | .y7 x xs=>match ex tm x with
  | .fn true f g []=>AM (g=L.num f) (oE tm M [] xs λ vs=>AB L f vs λ r=>K r M)
  | .fn true f g (c::cs)=>AM (g=L.num f) (dN true M [] (.agg (c::cs)) λ v=>oE tm M [] xs λ vs=>AB L f (v::vs) λ r=>K r M)
  | .fn false f g cs=>bif nN cs then AM (g=L.num f) (jU tm xs λ vs=>fL (vs++cs) λ vs=>A8 L f vs tm M K) else False
  | _=>False
def Hf (key:Nat):Tm->Tm
 | []=>[]
 | (j,v)::r=>bif dZ key v then (j,.any)::Hf key r else (j,v)::Hf key r
def xk (v:AV) (tm:Tm) (K:Tm->Prop):Prop:=match v with
 | .row key (_+1) _ _ _=>fT (Hf key tm) K
 | _=>K tm
noncomputable def XI (L:Lib) (o:AI) (ih:(Tm->Mem->Prop)->Tm->Mem->Prop) (K:Tm->Mem->Prop) (tm:Tm) (M:Mem):Prop:=match o with
 | ⟨some d,.app s z b x y,none,g9⟩=>XE L tm M g9 (λ v M=>xk (ex tm x) tm λ tm=>ih K ((d,v)::tm) M) (.app s z b x y)
 | ⟨some d,op,none,g9⟩=>XE L tm M g9 (λ v M=>ih K ((d,v)::tm) M) op
 | ⟨none,op,none,g9⟩=>XE L tm M g9 (λ_ M=>ih K tm M) op
 | ⟨dst,op,some (g,w),g9⟩=>match tg tm g with
  | .bool b=>fB (b == w) λ c=>match c,dst with
   | true,some d=>XE L tm M g9 (λ v M=>ih K ((d,v)::tm) M) op
   | true,none=>XE L tm M g9 (λ_ M=>ih K tm M) op
   | false,some d=>ih K ((d,.m9 [])::tm) M
   | false,none=>ih K tm M
  | .m9 []=>match dst with
   | some d=>ih K ((d,.m9 [])::tm) M
   | none=>ih K tm M
  | _=>False
noncomputable def XO (L:Lib) (l:List AI):(Tm->Mem->Prop)->Tm->Mem->Prop :=
 List.rec (motive:=λ_=>(Tm->Mem->Prop)->Tm->Mem->Prop) (λ K tm M=>K tm M) (λ o _ ih K tm M=>XI L o ih K tm M) l
noncomputable def XS (L:Lib) (Q:Tm->Mem->Prop) (ih:List It->Tm->Mem->Prop) (k:List It) (tm:Tm) (M:Mem):Prop:=match k with
 | []=>Q tm M
 | it::k=>match it with
  | .m5 _=>ih k tm M
  | .oc ts ss=>fN (mask 0 ts) λ m=>fT (Ay m tm) λ tm=>match ss with
   | []=>ih k tm M
   | _::_=>False
  | .lp c=>AA L (.lp c::k) tm M Q
  | .code c=>match c with
   | .skip=>ih k tm M
   | .ops l _=>XO L l (λ tm M=>ih k tm M) tm M
   | .dr c ts ss=>ih (.code c :: .oc ts ss::k) tm M
   | .scope c=>ih (.code c::k) tm M
   | .seq a b=>ih (.code a :: .code b::k) tm M
   | .cond x a b=>match ex tm x with
    | .bool b'=>fB b' λ c=>match c with
     | true=>ih (.code a::k) tm M
     | false=>ih (.code b::k) tm M
    | _=>False
   | .block id c=>ih (.code c :: .m5 id::k) tm M
   | .loop c=>AA L (.lp c::k) tm M Q
   | .exit id=>match D6 id k with
    | some k'=>ih k' tm M
    | none=>False
   | .ret=>Q tm M
noncomputable def XK (L:Lib) (Q:Tm->Mem->Prop) (n:Nat):List It->Tm->Mem->Prop :=
 Nat.rec (motive:=λ_=>List It->Tm->Mem->Prop) (λ k tm M=>AA L k tm M Q) (λ_ ih k tm M=>XS L Q ih k tm M) n
def nY (tm:Tm) (M:Mem) (r:O3) (K:AV->Prop):Prop:=match r with
 | .tmp t=>f2 (tg tm t) K
 | .cell t agg n=>match tg tm t with
  | .ptr key 0 i j=>match l6 M key with
   | some (_,.bx cs)=>bif Nat.beq i 0 then (match part cs j n with
    | some ds=>fL ds λ ds=>wj agg ds K
    | none=>False) else False
   | _=>False
  | _=>False
noncomputable def sO (tm:Tm) (M:Mem) (l:List O3):(List AV->Prop)->Prop :=
 List.rec (motive:=λ_=>(List AV->Prop)->Prop) (λ K=>K []) (λ x _ ih K=>nY tm M x λ v=>ih λ vs=>K (v::vs)) l
noncomputable def Mp (q:Bool) (M:Mem) (l:List AV):(List AV->Prop)->Prop :=
 List.rec (motive:=λ_=>(List AV->Prop)->Prop) (λ K=>K []) (λ x _ ih K=>dN q M [] x λ v=>ih λ vs=>K (v::vs)) l
def rsv (vs:List AV) (K:AV->Prop):Prop:=match vs with
 | [v]=>K v
 | vs=>K (.m9 vs)
def AJ (a r:AV):Prop:=a=r/\A6 r
noncomputable def dW (fn:AFn) (r:AV) (tm:Tm) (M:Mem):Prop:=sO tm M fn.res λ vs=>Mp false M vs λ vs=>rsv vs λ v=>AJ v r
end Go.e9
