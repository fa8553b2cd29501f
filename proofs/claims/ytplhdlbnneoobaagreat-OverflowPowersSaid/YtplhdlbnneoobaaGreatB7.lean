/-
  The walk by computation is sound: calls, regions, code, loops, functions.
-/
import Derived.Test.YtplhdlbnneoobaaGreatB6
import Derived.Calls
import Derived.Test.YtplhdlbnneoobaaGreatB4
import Derived.Test.YtplhdlbnneoobaaGreatB3
set_option linter.unusedSimpArgs false
set_option linter.unusedVariables false
set_option linter.unnecessarySimpa false
namespace Go.c4
section
variable {σ:E4} {tm:Tm} {M:Mem} {st:St} {L:Lib} {b9:List Nat}
theorem jY {own:AG} {q:Bool} {d:Nat} : ∀ {e:List AV},E1 e=true->e.mapM (snap own q d)=some e
 | [],_=>rfl
 | v::r,h=>by
  have hv:snap own q d v=some v/\E1 r=true:=by
   cases v<;>simp only[E1]at h<;>first|cases h|exact ⟨by cases d<;>rfl,h⟩
  rw[List.mapM_cons,hv.1,jY hv.2];rfl
theorem kA {own:AG} {q:Bool} {d:Nat} : ∀ {e:List AV},J5 e=true->e.mapM (snap own q d)=some (e.map nl)
 | [],_=>rfl
 | v::r,h=>by
  have hv:snap own q d v=some (nl v)/\J5 r=true:=by
   cases v<;>simp only[J5]at h<;>first|cases h|exact ⟨by cases d<;>rfl,h⟩
  rw[List.mapM_cons,hv.1,kA hv.2];rfl
theorem jZ {own:AG} {q:Bool} {d:Nat} : ∀ {es:List (List AV)},(∀ e∈es,J5 e=true)->es.mapM (λ cs:List AV=>cs.mapM (snap own q d))=some (es.map λ e=>e.map nl)
 | [],_=>rfl
 | e::r,h=>by
  rw[List.mapM_cons,kA (h e List.mem_cons_self),jZ λ x hx=>h x (List.mem_cons_of_mem _ hx)];rfl
theorem jX {own:AG} {q:Bool} {d:Nat} : ∀ {es:List (List AV)},(∀ e∈es,E1 e=true)->es.mapM (λ cs:List AV=>cs.mapM (snap own q d))=some es
 | [],_=>rfl
 | e::r,h=>by
  rw[List.mapM_cons,jY (h e List.mem_cons_self),jX λ x hx=>h x (List.mem_cons_of_mem _ hx)];rfl
theorem lY (hs:IP σ st.own M) {q:Bool} {v:AV} {K:AV->Prop} (h:PS q M b9 v K) : ∃ v',(∀ d,snap (st.own.l9 b9) q (d+1) (A5 σ v)=some v')/\K v'/\v ≠ .any/\BM σ v=A5 σ v:=by
 cases v with
 | row key t z off len =>
  have fin : ∀ (z':Nat) (es:List (List AV)),((st.own.l9 b9) (σ key t).1).c9 (σ key t).2=some ⟨z',es⟩->z=z'->A0 es off len (λ es=>K (.sl q es)) -> ∃ v',(∀ d,snap (st.own.l9 b9) q (d+1) (A5 σ (.row key t z off len))=some v')/\K v'/\AV.row key t z off len ≠ .any/\BM σ (.row key t z off len)=A5 σ (.row key t z off len):=by
   intro z' es hb hz h;subst hz;obtain ⟨h1,h2,h3⟩:=h;refine ⟨_,λ d => ?_,h3,(by intro e;cases e),rfl⟩;simp only[A5,snap,DM,AG.get,hb];rw[if_pos ⟨h1,trivial⟩];simp only;rw[jZ λ e he=>h2 e (List.mem_of_mem_drop (List.mem_of_mem_take he))];rfl
  simp only[PS]at h;split at h
  ·rename_i s z' es hm
   split at h
   ·cases hz:Nat.beq z z'<;>simp only[hz,cond_true,cond_false]at h
    cases hb:N3 s b9<;>simp only[hb,cond_true,cond_false]at h;refine fin z' es ?_ (BB.1 hz) h;have q9:=hs.c9 _ _ _ (DS hm);rw[hs.site _ _ _ hm]at q9 ⊢;rw[QQ hb];exact q9
   ·exact h.elim
  ·rename_i s rows hm
   split at h
   ·exact h.elim
   ·rename_i i
    split at h
    ·obtain ⟨z',es,g,h⟩:=h
     cases hz:Nat.beq z z'<;>simp only[hz,cond_true,cond_false]at h;exact fin z' es (hs.c9 key (i+1) (.rw z' es) (by simp [c6,hm,g])) (BB.1 hz) h
    ·rename_i b r
     cases hb:PD (b::r)<;>simp only[hb,cond_true,cond_false]at h;obtain ⟨z',es,g,h⟩:=h;cases hz:Nat.beq z z'<;>simp only[hz,cond_true,cond_false]at h;have g':c6 M key (i+1)=some (.rw z' es):=by simp [c6,hm,g]
     refine fin z' es ?_ (BB.1 hz) h;rw[Y8 (hs.low _ _ _ g' rfl) hb];exact hs.c9 key (i+1) (.rw z' es) g'
  ·exact h.elim
 | int k n=>exact ⟨_,λ d=>rfl,h,(by intro e;cases e),rfl⟩
 | bool b=>exact ⟨_,λ d=>rfl,h,(by intro e;cases e),rfl⟩
 | sl l es=>exact ⟨_,λ d=>rfl,h,(by intro e;cases e),rfl⟩
 | z8 c=>exact ⟨_,λ d=>rfl,h,(by intro e;cases e),rfl⟩
 | nil=>exact ⟨_,λ d=>rfl,h,(by intro e;cases e),rfl⟩
 | _=>exact (h:False).elim
theorem lX (hs:IP σ st.own M) {q:Bool} : ∀ {l:List AV} {K:List AV->Prop},VN q M b9 l K -> ∃ l',(∀ d,(l.map (A5 σ)).mapM (snap (st.own.l9 b9) q (d+1))=some l')/\K l'
 | [],K,h=>⟨[],λ d=>rfl,h⟩
 | v::r,K,h=>by
  obtain ⟨v',h1,h2,_⟩:=lY hs (show PS q M b9 v λ v'=>VN q M b9 r λ r'=>K (v'::r') from h);obtain ⟨l',h3,h4⟩:=lX hs h2;refine ⟨v'::l',λ d => ?_,h4⟩;rw[List.map_cons,List.mapM_cons,h1 d,h3 d];rfl
theorem lW (hs:IP σ st.own M) {q:Bool} : ∀ {l:List (List AV)} {K:List (List AV)->Prop},Z4 q M b9 l K -> ∃ l',(∀ d,(l.map λ cs=>cs.map (A5 σ)).mapM (λ cs:List AV=>cs.mapM (snap (st.own.l9 b9) q (d+1)))=some l')/\K l'
 | [],K,h=>⟨[],λ d=>rfl,h⟩
 | v::r,K,h=>by
  obtain ⟨v',h1,h2⟩:=lX hs (show VN q M b9 v λ v'=>Z4 q M b9 r λ r'=>K (v'::r') from h);obtain ⟨l',h3,h4⟩:=lW hs h2;refine ⟨v'::l',λ d => ?_,h4⟩;rw[List.map_cons,List.mapM_cons,h1 d,h3 d];rfl
theorem ZQ {own:AG} {q:Bool} {d:Nat} {k:Nat} : ∀ {rows:List (Option (Nat × List (List AV)))} {i:Nat},(∀ j z es,rows[j]? = some (some (z,es))->(own (σ k (i+j+1)).1).c9 (σ k (i+j+1)).2=some ⟨z,es⟩ /\ ∀ e∈es,E1 e=true) ->
  (BR σ k i rows).mapM (λ cs:List AV=>cs.mapM (snap own q (d+1)))=some (N8 q rows)
 | [],i,h=>rfl
 | none::r,i,h=>by
  rw[BR,List.mapM_cons,ZQ (i:=i+1) λ j z es hj=>by
   have:=h (j+1) z es (by simpa using hj)
   rwa [show i+(j+1)+1=i+1+j+1 by omega]at this]
  rfl
 | some (z,es)::r,i,h=>by
  rw[BR,List.mapM_cons,ZQ (i:=i+1) λ j z es hj=>by
   have:=h (j+1) z es (by simpa using hj)
   rwa [show i+(j+1)+1=i+1+j+1 by omega]at this]
  obtain ⟨h1,h2⟩:=h 0 z es rfl;have:snap own q (d+1) (.row (σ k (i+1)).1 (σ k (i+1)).2 z 0 es.length)=some (.sl q es):=by
   simp only[snap,DM,AG.get];rw[show (own (σ k (i+1)).1).c9 (σ k (i+1)).2=some ⟨z,es⟩ from h1];simp only[Nat.zero_add,Nat.le_refl,and_self,if_true,List.drop_zero];rw[List.take_of_length_le (Nat.le_refl _),jX h2];rfl
  rw[List.mapM_cons,this];rfl
theorem lV (hs:IP σ st.own M) {q:Bool} {v:AV} {K:AV->Prop} (h:SU q M b9 v K) : ∃ v',snap (st.own.l9 b9) q 6 (A5 σ v)=some v'/\K v'/\v ≠ .any/\BM σ v=A5 σ v/\C7 (st.own.l9 b9) q (A5 σ v)=some v':=by
 have nf:PS q M b9 v K -> ∃ v',snap (st.own.l9 b9) q 6 (A5 σ v)=some v'/\K v'/\v ≠ .any/\BM σ v=A5 σ v/\C7 (st.own.l9 b9) q (A5 σ v)=some v':=by
  intro h;obtain ⟨v',h1,h2,h3,h4⟩:=lY hs h;refine ⟨v',h1 5,h2,h3,h4,?_⟩;have:=h1 5
  cases v<;>first|exact this|exact (h:False).elim
 unfold SU at h;split at h
 ·rename_i key z off len
  split at h
  ·rename_i s z' es hm
   cases hz:Nat.beq z z'<;>simp only[hz,cond_true,cond_false]at h;cases hb:N3 s b9<;>simp only[hb,cond_true,cond_false]at h;cases ho:Nat.beq off 0<;>simp only[ho,cond_true,cond_false]at h;obtain rfl:=BB.1 hz;obtain rfl:=BB.1 ho;obtain ⟨rfl,h⟩:=h;obtain ⟨l',h1,h2⟩:=lW hs h;have q9:=hs.c9 _ _ _ (DS hm);rw[hs.site _ _ _ hm]at q9;have key:snap (st.own.l9 b9) q 6 (A5 σ (.row key 0 z 0 es.length))=some (.sl q l'):=by
    simp only[A5,snap,DM,AG.get,hs.site _ _ _ hm];rw[QQ hb,q9];simp only[A3.c9,Nat.zero_add,List.length_map,Nat.le_refl,and_self,if_true,List.drop_zero];rw[List.take_of_length_le (by simp),h1 4];rfl
   exact ⟨_,key,h2,(by intro e;cases e),rfl,key⟩
  ·rename_i s rows hm
   split at h
   ·cases hz:Nat.beq z 1<;>simp only[hz,cond_true,cond_false]at h
    obtain rfl:=BB.1 hz;obtain ⟨rfl,rfl,h1,h2⟩:=h;have q9:=hs.c9 _ _ _ (DS hm);have key:snap (st.own.l9 []) q 6 (A5 σ (.row key 0 1 0 rows.length))=some (.sl q (N8 q rows)):=by
     simp only[A5,snap,DM,AG.get,AG.l9];rw[q9];simp only[A3.c9,Nat.zero_add,EL,Nat.le_refl,and_self,if_true,List.drop_zero];rw[List.take_of_length_le (by rw[EL];exact Nat.le_refl _),ZQ (i:=0) λ j z es hj=>⟨by
      have:=hs.c9 key (j+1) (.rw z es) (by simp [c6,hm,hj])
      simpa [A3.c9] using this,h1 z es (zM hj)⟩]
     rfl
    exact ⟨_,key,h2,(by intro e;cases e),rfl,key⟩
   ·exact h.elim
  ·exact nf h
 ·exact nf h
theorem lZ (hs:IP σ st.own M) {q:Bool} : ∀ {l:List AV} {K:List AV->Prop},Z5 q M b9 l K -> ∃ l',(l.map (A5 σ)).mapM (snap (st.own.l9 b9) q 6)=some l'/\K l'
 | [],K,h=>⟨[],rfl,h⟩
 | v::r,K,h=>by
  obtain ⟨v',h1,h2,_⟩:=lV hs (show SU q M b9 v λ v'=>Z5 q M b9 r λ r'=>K (v'::r') from h);obtain ⟨l',h3,h4⟩:=lZ hs h2;refine ⟨v'::l',?_,h4⟩;rw[List.map_cons,List.mapM_cons,h1,h3];rfl
theorem Z3 (hs:IP σ st.own M) {q:Bool} {v:AV} {K:AV->Prop} (h:N9 q M b9 v K) : ∃ v',C7 (st.own.l9 b9) q (A8 σ v)=some v'/\K v'/\v ≠ .any/\A8 σ v=BM σ v:=by
 cases v with
 | agg cs =>
  simp only[N9]at h;obtain ⟨l',h1,h2⟩:=lZ hs h;refine ⟨.agg l',?_,h2,(by intro e;cases e),rfl⟩;simp only[GR,C7,h1,Option.map_some]
 | j4 vs=>exact (h:False).elim
 | fn p f g cs=>exact (h:False).elim
 | any=>exact (h:False).elim
 | _ =>
  simp only[N9]at h;obtain ⟨v',h1,h2,h3,h4,h5⟩:=lV hs h;exact ⟨v',h5,h2,h3,rfl⟩
theorem Z7 (hr:RX σ tm M st) : ∀ {xs:List AM} {K:List AV->Prop},VP tm M b9 xs K -> ∃ vs,(xs.map st.ev).mapM (C7 (st.own.l9 b9) true)=some vs/\K vs
 | [],K,h=>⟨[],rfl,h⟩
 | x::r,K,h=>by
  obtain ⟨v',h1,h2,h3,_⟩:=Z3 hr.sat (show N9 true M b9 (ex tm x) λ v=>VP tm M b9 r λ vs=>K (v::vs) from h);obtain ⟨l',h4,h5⟩:=Z7 hr h2;refine ⟨v'::l',?_,h5⟩;rw[List.map_cons,List.mapM_cons,hr.ev rfl h3,h1,h4];rfl
theorem Lb (hs:IP σ st.own M) {v:AV} {K:AV->Prop} (h:VO M b9 v K) : ∃ v',MN (st.own.l9 b9) true (A8 σ v)=some v'/\K v'/\v ≠ .any/\A8 σ v=BM σ v:=by
 cases v with
 | nil=>exact ⟨.nil,rfl,h,(by intro e;cases e),rfl⟩
 | _ =>
  simp only[VO]at h;obtain ⟨v',h1,h2,h3,h4⟩:=Z3 hs h;exact ⟨v',h1,h2,h3,h4⟩
theorem mA (hr:RX σ tm M st) : ∀ {xs:List AM} {K:List AV->Prop},Z6 tm M b9 xs K -> ∃ vs,(xs.map st.ev).mapM (MN (st.own.l9 b9) true)=some vs/\K vs
 | [],K,h=>⟨[],rfl,h⟩
 | x::r,K,h=>by
  obtain ⟨v',h1,h2,h3,_⟩:=Lb hr.sat (show VO M b9 (ex tm x) λ v=>Z6 tm M b9 r λ vs=>K (v::vs) from h);obtain ⟨l',h4,h5⟩:=mA hr h2;refine ⟨v'::l',?_,h5⟩;rw[List.map_cons,List.mapM_cons,hr.ev rfl h3,h1,h4];rfl
theorem RW (hr:RX σ tm M st) : ∀ {xs:List AM} {K:List AV->Prop},QF tm xs K -> ∃ vs,xs.map st.ev=vs.map (A8 σ)/\K vs
 | [],K,h=>⟨[],rfl,h⟩
 | x::r,K,h=>by
  obtain ⟨h1,h2⟩:=UM (show fV (ex tm x) λ v=>QF tm r λ vs=>K (v::vs) from h);obtain ⟨vs,h3,h4⟩:=RW hr h2;exact ⟨ex tm x::vs,by rw[List.map_cons,List.map_cons,hr.ev rfl h1,h3],h4⟩
theorem cT {v:AV} (h:A1 v):A5 σ v=v:=by
 cases v<;>first|rfl|(simp only[A1]at h)
theorem cR : ∀ {l:List AV},CM l->l.map (A5 σ)=l
 | [],_=>rfl
 | v::r,h=>by
  simp only[CM]at h;rw[List.map_cons,cT h.1,cR h.2]
theorem cU {v:AV} (h:A1 v):BM σ v=v:=by
 cases v with
 | agg cs=>simp only[A1]at h;simp only[BM,cR h]
 | fn p f g cs=>simp only[A1]at h
 | _=>exact cT (σ:=σ) h
theorem cS : ∀ {l:List AV},CM l->l.map (BM σ)=l
 | [],_=>rfl
 | v::r,h=>by
  simp only[CM]at h;rw[List.map_cons,cU h.1,cS h.2]
theorem cV {v:AV} (h:A1 v):A8 σ v=v:=by
 cases v with
 | j4 cs=>simp only[A1]at h;simp only[A8,cS h]
 | _=>exact cU (σ:=σ) h
theorem kM {I:List AV->Option (AV × AG)} {vs:List AV} {r:AV} (h:HG I vs=some r):A1 r:=by
 unfold HG at h;split at h
 ·split at h
  ·split at h
   ·obtain rfl:=Option.some.inj h
    assumption
   ·cases h
  ·cases h
 ·cases h
theorem Ev.clean {f:Nat} {vs:List AV} {r:AV} (h:Ev L f vs r):A1 r:=by
 obtain ⟨n,h⟩:=h;unfold GZ IZ at h;split at h
 ·split at h
  ·rename_i r1 r2 h1 h2
   split at h
   ·obtain rfl:=Option.some.inj h
    exact kM h1
   ·cases h
  ·cases h
 ·exact kM h
theorem RX.put (h:RX σ tm M st) (d:Nat) {v v':AV} (e:v'=A8 σ v):RX σ ((d,v)::tm) M ⟨eo st.tm d v',st.own⟩:=by
 refine ⟨λ j => ?_,h.sat⟩;simp only[tg,S2];cases hb:Nat.beq j d
 ·rw[if_neg (EY.1 hb)];exact h.tm j
 ·rw[if_pos (BB.1 hb)];exact Or.inr e
theorem kB : ∀ {cs:List AV},SF cs=true->cs.map (A8 σ)=cs.map (A5 σ)
 | [],_=>rfl
 | v::r,h=>by
  simp only[SF]at h;cases hv:ZA v<;>simp only[hv,cond_true,cond_false]at h
  ·cases h
  ·rw[List.map_cons,List.map_cons,kB h]
   cases v<;>first|rfl|(simp [ZA]at hv)
theorem vI {v:AV} (h:F6 v=true):A5 σ v=v:=by cases v<;>first|rfl|(simp [F6]at h)
theorem eF : ∀ {cs:List AV},cs.all F6=true->cs.map (A5 σ)=cs
 | [],_=>rfl
 | c::r,h=>by
  simp only[List.all_cons,Bool.and_eq_true]at h;rw[List.map_cons,vI h.1,eF h.2]
theorem eG : ∀ {vs:List AV},vs.all dq=true->vs.map (A8 σ)=vs
 | [],_=>rfl
 | v::r,h=>by
  simp only[List.all_cons,Bool.and_eq_true]at h;rw[List.map_cons,eG h.2];congr 1;cases v with
  | agg cs=>simp only[A8,BM,eF (show cs.all F6=true from h.1)]
  | _=>first|rfl|(simp [dq,F6]at h)
theorem Jm {r:AV} (hc:A1 r) (hf:G8 r):A8 σ (qz r)=qz r:=by
 cases r with
 | agg cs =>
  simp only[qz,A8,BM];congr 1;rw[List.map_map];refine List.map_congr_left λ c nn => ?_
  have:=hf c nn
  cases c<;>first|rfl|exact this.elim
 | _=>first|rfl|exact hf.elim
theorem Ji {c:AV} (h:A1 c):A5 σ (FH c)=FH c:=by
 cases c<;>first|(simp only[FH,A5];done)|(simp only[A1]at h;done)
theorem Jk {r:AV} (h:A1 r) (hd:OH r):A8 σ (IW r)=IW r:=by
 cases r with
 | agg cs =>
  simp only[A1]at h;have : ∀ cs:List AV,CM cs->(GN cs).map (A5 σ)=GN cs:=by
   intro cs;induction cs with
   | nil=>intro _;simp [GN]
   | cons c l ih =>
    intro h;simp only[CM]at h;rw[GN,List.map_cons,ih h.2,Ji h.1]
  simp only[IW,A8,BM,this cs h]
 | j4=>exact hd.elim
 | fn=>exact hd.elim
 | _=>first|(simp only[IW,FH,A8,BM,A5];done)|(simp only[A1]at h;done)
theorem Jl {r:AV} (h:A1 r) (hd:G8 r\/OH r):A8 σ (JL r)=JL r:=by
 by_cases hf:G8 r
 ·rw[YT hf];exact Jm h hf
 ·rw[YS hf];exact Jk h (hd.resolve_left hf)
theorem iM : ∀ {l:List AV},UT l=true->l.map (A8 σ)=l
 | [],_=>rfl
 | .int _ _::r,h=>by
  rw[List.map_cons,iM (l:=r) h];rfl
theorem qI {K:AV->Mem->Prop} (hr:RX σ tm M st) {op:DG} (h:XE L tm M b9 K op):BD L tm b9 K op st\/(∃ f xs,op = .call f xs)\/(∃ f xs,op = .g6 f xs)\/(∃ x xs,op = .n9 x xs)\/(∃ f xs,op = .k9 f xs)\/(∃ s f xs,op = .o5 s f xs) \/ ∃ s f xs,op = .w9 s f xs:=by
 cases op with
 | call f xs=>exact Or.inr (Or.inl ⟨_,_,rfl⟩)
 | g6 f xs=>exact Or.inr (Or.inr (Or.inl ⟨_,_,rfl⟩))
 | n9 x xs=>exact Or.inr (Or.inr (Or.inr (Or.inl ⟨_,_,rfl⟩)))
 | k9 f xs=>exact Or.inr (Or.inr (Or.inr (Or.inr (Or.inl ⟨_,_,rfl⟩))))
 | o5 s f xs=>exact Or.inr (Or.inr (Or.inr (Or.inr (Or.inr (Or.inl ⟨_,_,_,rfl⟩)))))
 | w9 s f xs=>exact Or.inr (Or.inr (Or.inr (Or.inr (Or.inr (Or.inr ⟨_,_,_,rfl⟩)))))
 | jc s n x v=>exact Or.inl (qW hr h)
 | ax s z b x y=>exact Or.inl (pV hr h)
 | mc ne x=>exact Or.inl (qL hr h)
 | bad=>exact (show False from h).elim
 | mw x=>exact Or.inl (qS hr h)
 | da x=>exact Or.inl (qC hr h)
 | je s z b x y=>exact Or.inl (pW hr h)
 | jd s z b x y=>exact Or.inl (pR hr h)
 | cp tb x=>exact Or.inl (qU hr h)
 | ju p f xs=>exact Or.inl (qP hr h)
 | b7 x=>exact Or.inl (qR hr h)
 | y6 s z=>exact Or.inl (qY hr h)
 | pick c a b=>exact Or.inl (qT hr h)
 | bin o x y=>exact Or.inl (pY hr h)
 | beq ne x y=>exact Or.inl (pX hr h)
 | mf ne n x y=>exact Or.inl (pP hr h)
 | un o x=>exact Or.inl (qX hr h)
 | conv k x=>exact Or.inl (qD hr h)
 | box s x=>exact Or.inl (pZ hr h)
 | alloc s z=>exact Or.inl (pQ hr h)
 | build z ps=>exact Or.inl (qB hr h)
 | e8 s z ps=>exact Or.inl (qA hr h)
 | a6 x o=>exact Or.inl (qG hr h)
 | iq x o n a=>exact Or.inl (qH hr h)
 | a8 a z x i=>exact Or.inl (qJ hr h)
 | idx l z a x i=>exact Or.inl (qK hr h)
 | ld a n x=>exact Or.inl (qM hr h)
 | st n x v=>exact Or.inl (bS hr h)
 | mk s z b ze l c=>exact Or.inl (qO hr h)
 | bz z x lo hi=>exact Or.inl (qV hr h)
 | ext x i=>exact Or.inl (qF hr h)
 | len x=>exact Or.inl (qN hr h)
 | mm m xs=>exact Or.inl (qQ hr h)
 | app s z b x y=>exact Or.inl (pS hr h)
 | jg z x y=>exact Or.inl (qE hr h)
theorem WC {K:AV->Mem->Prop} (hr:RX σ tm M st) {op:DG} {d:Option Nat} {g:Option (Nat × Bool)} {l:List AI} {k:List It} {Q:St->Prop} (h:XE L tm M b9 K op) (hg:EZ st g=some true)
  (hk : ∀ σ' v v' M' l8,K v M'->v'=A8 σ' v->RX σ' tm M' ⟨st.tm,l8⟩->AO L l k ⟨((⟨st.tm,l8⟩:St).dst d v').tm,l8⟩ Q):AO L (⟨d,op,g,b9⟩::l) k st Q:=by
 rcases qI hr h with ⟨E,σ',v,M',h1,h2,h3,h4⟩|⟨f,xs,rfl⟩|⟨f,xs,rfl⟩|⟨x,xs,rfl⟩|⟨f,xs,rfl⟩|⟨s,f,xs,rfl⟩|⟨s,f,xs,rfl⟩
 ·rw[oH hg h1,WH]
  have:=hk σ' v _ M' _ h2 h3 h4
  cases d<;>exact this
 ·simp only[XE]at h
  obtain ⟨vs,h1,r,h2,h3⟩:=Z7 hr h;rw[nY hg h1 h2];have:=hk σ r r M st.own h3 (cV h2.clean).symm hr
  cases d<;>exact this
 ·simp only[XE]at h
  obtain ⟨vs,h1,h2⟩:=RW hr h;obtain ⟨r,l8,σ',M',h3,h4,h5,h6⟩:=h2 σ st.own hr.sat;rw[<-h1]at h3;rw[nZ hg h3];have:=hk σ' r _ M' l8 h6 rfl ⟨λ j=>by rw[h5 j];exact hr.tm j,h4⟩
  cases d<;>exact this
 ·simp only[XE]at h
  split at h
  ·rename_i f g' e1
   obtain ⟨h0,h⟩:=h;obtain ⟨vs,h1,r,h2,h3⟩:=Z7 hr h;have e2:=hr.ev e1 (by intro e;cases e);rw[ZT,List.map_nil,h0]at e2;rw[oA hg e2 h1 h2];have:=hk σ r r M st.own h3 (cV h2.clean).symm hr
   cases d<;>exact this
  ·rename_i f g' cs e1
   cases ho:SF cs<;>simp only[ho,cond_true,cond_false]at h;obtain ⟨h0,h⟩:=h;obtain ⟨vs,h1,h2⟩:=RW hr h;rw[F7]at h2;obtain ⟨r,l8,σ',M',h3,h4,h5,h6⟩:=h2 σ st.own hr.sat;rw[List.map_append,<-h1,kB (σ:=σ) ho]at h3;have e2:=hr.ev e1 (by intro e;cases e);rw[ZT,h0]at e2;rw[oD hg e2 h3];have:=hk σ' r _ M' l8 h6 rfl ⟨λ j=>by rw[h5 j];exact hr.tm j,h4⟩
   cases d<;>exact this
  ·exact h.elim
 ·simp only[XE]at h
  obtain ⟨vs,h1,h2⟩:=RW hr h;cases ho:vs.all dq<;>simp only[ho,cond_true,cond_false]at h2;obtain ⟨r,h3,h4,h5⟩:=h2;have e1:xs.map st.ev=vs:=by rw[h1];exact eG ho
  rw[oB hg (by rw[e1];exact ho) (by rw[e1];exact h3) h4];have:=hk σ (JL r) (JL r) M st.own h5 (Jl h3.clean h4).symm hr
  cases d<;>exact this
 ·simp only[XE]at h
  cases yz:D8 s<;>simp only[yz,cond_true,cond_false]at h;obtain ⟨vs,h1,z,es,n,h2,rfl,h3⟩:=mA hr h;obtain ⟨k',g1,g2,g3⟩:=FQ h3;refine oC hg h1 h2 ?_;rw[WH];have:=hk (CQ σ k' λ_=>(s,st.own.g7 s)) _ (.row s (st.own.g7 s) z 0 es.length) _ _ g3 (by simp only[CN,BN]) (hr.aj (q:=s) g1 g2 (.rw z es) trivial rfl (λ_=>yz))
  cases d<;>exact this
 ·simp only[XE]at h
  obtain ⟨vs,h1,h2⟩:=RW hr h;split at h2
  ·rename_i key rest
   cases hi:UT rest<;>simp only[hi,cond_true,cond_false]at h2;obtain ⟨cells,cb,kd,n,g1,g2,g3,g4,g5⟩:=h2;have br:=hr.sat.site _ _ _ g1;have q9:=hr.sat.c9 _ _ _ (DS g1);rw[br]at q9;simp only[A3.c9,HS g2]at q9;have u5:xs.map st.ev = .ptr s (σ key 0).2 0 0::rest:=by
    rw[h1,List.map_cons,DN,br,iM hi]
   have hE:=g4 (σ key 0).2 (st.own s) q9;refine oE hg (by rw[u5];exact hE) ?_;rw[WH];have:=hk σ (.int kd n) (.int kd n) _ _ g5 rfl (hr.Bv g1 trivial (.bx cb) trivial (λ h=>by cases h))
   simp only[A3.c9,HS g3]at this;cases d<;>exact this
  ·exact h2.elim
theorem yS (hr:RX σ tm M st) {g:Nat} {w:Bool} {b:Bool} (e:tg tm g = .bool b):EZ st (some (g,w))=some (b == w):=by
 rcases hr.tm g with h|h
 ·rw[e]at h;cases h
 ·rw[e]at h
  simp only[EZ,h,FW]
theorem yT (hr:RX σ tm M st) {g:Nat} {w:Bool} (e:tg tm g = .j4 []):EZ st (some (g,w))=some false:=by
 rcases hr.tm g with h|h
 ·rw[e]at h;cases h
 ·rw[e]at h
  simp only[EZ,h,G4,List.map_nil]
theorem aG {key:Nat} : ∀ (tm:Tm) (j:Nat),tg (wy key tm) j = .any\/tg (wy key tm) j=tg tm j
 | [],_=>Or.inl rfl
 | (i,v)::r,j=>by
  simp only[wy];cases hc:NU key v<;>cases hb:Nat.beq j i;all_goals simp only[cond_true,cond_false,tg,hb]
  ·exact aG r j
  ·exact Or.inr trivial
  ·exact aG r j
  ·exact Or.inl trivial
theorem Ng {v:AV} {K:Tm->Prop} (h:xk v tm K) : ∃ v9,(∀ j,tg v9 j = .any\/tg v9 j=tg tm j)/\K v9:=by
 unfold xk at h;split at h
 ·rw[R1]at h
  exact ⟨_,λ j=>aG _ j,h⟩
 ·exact ⟨_,λ j=>Or.inr rfl,h⟩
theorem bU {k:List It} {Q:Tm->Mem->Prop} : ∀ {l:List AI} {K:Tm->Mem->Prop} {tm:Tm} {M:Mem},XO L l K tm M->(∀ v9 M',K v9 M'->AA L k v9 M' Q)->aQ L l k tm M Q
 | [],K,tm,M,h,hk=>λ σ st hr=>oF.2 (hk tm M h σ st hr)
 | o::l,K,tm,M,h,hk=>by
  intro σ st hr;have h:XI L o (XO L l) K tm M:=h;have ih : ∀ v9 M',XO L l K v9 M'->aQ L l k v9 M' Q:=λ v9 M' h'=>bU h' hk
  have some_ : ∀ (d:Nat) (op:DG) (g:Option (Nat × Bool)) (b9:List Nat),EZ st g=some true->XE L tm M b9 (λ v M=>XO L l K ((d,v)::tm) M) op->AO L (⟨some d,op,g,b9⟩::l) k st (SQ Q):=by
   intro d op g b9 hg hx;refine WC hr hx hg ?_;intro σ' v v' M' l8 h1 h2 h3;exact ih _ _ h1 σ' _ (h3.put d h2)
  have vf : ∀ (d:Nat) (u:AV) (op:DG) (b9:List Nat),XE L tm M b9 (λ v M=>xk u tm λ tm=>XO L l K ((d,v)::tm) M) op->AO L (⟨some d,op,none,b9⟩::l) k st (SQ Q):=by
   intro d u op b9 hx;refine WC hr hx rfl ?_;intro σ' v v' M' l8 h1 h2 h3;obtain ⟨v9,g1,g2⟩:=Ng h1;exact ih _ _ g2 σ' _ ((show RX σ' v9 M' ⟨st.tm,l8⟩ from ⟨λ j=>(g1 j).elim Or.inl λ e=>by rw[e];exact h3.tm j,h3.sat⟩).put d h2)
  have none_ : ∀ (op:DG) (g:Option (Nat × Bool)) (b9:List Nat),EZ st g=some true->XE L tm M b9 (λ_ M=>XO L l K tm M) op->AO L (⟨none,op,g,b9⟩::l) k st (SQ Q):=by
   intro op g b9 hg hx;refine WC hr hx hg ?_;intro σ' v v' M' l8 h1 h2 h3;exact ih _ _ h1 σ' _ h3
  have te : ∀ (d:Option Nat) (op:DG) (g:Option (Nat × Bool)) (b9:List Nat),EZ st g=some false->(match d with|some d=>XO L l K ((d,.j4 [])::tm) M|none=>XO L l K tm M)->AO L (⟨d,op,g,b9⟩::l) k st (SQ Q):=by
   intro d op g b9 hg hx;rw[oG hg];cases d with
   | none=>exact ih _ _ hx σ _ hr
   | some d=>exact ih _ _ hx σ _ (hr.put d rfl)
  obtain ⟨d,op,g,b9⟩:=o;cases g with
  | none =>
   cases d with
   | none=>exact none_ op none b9 rfl h
   | some d =>
    cases op with
    | app s z b x y=>exact vf d (ex tm x) (.app s z b x y) b9 h
    | _=>exact some_ d _ none b9 rfl h
  | some gw =>
   obtain ⟨g,w⟩:=gw;have h:(match tg tm g with
    | .bool b=>fB (b == w) λ c=>match c,d with
     | true,some d=>XE L tm M b9 (λ v M=>XO L l K ((d,v)::tm) M) op
     | true,none=>XE L tm M b9 (λ_ M=>XO L l K tm M) op
     | false,some d=>XO L l K ((d,.j4 [])::tm) M
     | false,none=>XO L l K tm M
    | .j4 []=>match d with
     | some d=>XO L l K ((d,.j4 [])::tm) M
     | none=>XO L l K tm M
    | _=>False):=by cases d<;>cases op<;>exact h
   split at h
   ·rename_i b e
    rw[M8]at h;have hg:=yS hr (w:=w) e;cases hb:(b == w)<;>rw[hb]at h hg
    ·exact te d op _ b9 hg (by cases d<;>exact h)
    ·cases d with
     | none=>exact none_ op _ b9 hg h
     | some d=>exact some_ d op _ b9 hg h
   ·rename_i e
    exact te d op _ b9 (yT hr e) (by cases d<;>exact h)
   ·exact h.elim
theorem bT {Q:Tm->Mem->Prop} : ∀ {n:Nat} {k:List It} {tm:Tm} {M:Mem},XK L Q n k tm M->AA L k tm M Q
 | 0,k,tm,M,h=>h
 | n+1,[],tm,M,h=>λ σ st hr=>nS.2 ⟨σ,tm,M,hr,h⟩
 | n+1,it::k,tm,M,h=>by
  have h:XS L Q (XK L Q n) (it::k) tm M:=h;have ih : ∀ k tm M,XK L Q n k tm M->AA L k tm M Q:=λ k tm M h=>bT h
  intro σ st hr;cases it with
  | c9 id=>exact nK.2 (ih _ _ _ h σ st hr)
  | im ts ss =>
   simp only[XS,yG,R1]at h;cases ss with
   | cons s r=>exact h.elim
   | nil =>
    refine nO.2 (ih _ _ _ h σ _ ⟨λ j => ?_,hr.sat⟩);rw[SZ,QY,cB,WM,Bool.false_or];cases hc:ts.contains j
    ·simp only[Bool.false_eq_true,if_false,cond_false]
     exact hr.tm j
    ·exact Or.inl rfl
  | lp c=>exact h σ st hr
  | code c =>
   cases c with
   | skip=>exact nX.2 (ih _ _ _ h σ st hr)
   | ops l d=>exact nT.2 (bU h (λ v9 M' h'=>ih _ _ _ h') σ st hr)
   | dr c ts ss=>exact nN.2 (ih _ _ _ h σ st hr)
   | scope c=>exact nV.2 (ih _ _ _ h σ st hr)
   | seq a b=>exact nW.2 (ih _ _ _ h σ st hr)
   | cond x a b =>
    simp only[XS]at h;split at h
    ·rename_i b' e
     rw[M8]at h;rw[nM (hr.ev e (by intro e;cases e))];cases b'
     ·simpa using ih _ _ _ h σ st hr
     ·simpa using ih _ _ _ h σ st hr
    ·exact h.elim
   | block id c=>exact nL.2 (ih _ _ _ h σ st hr)
   | loop c=>exact nQ.2 (aP.1 (h σ st hr))
   | exit id =>
    simp only[XS]at h;split at h
    ·rename_i k' e
     exact (nP e).2 (ih _ _ _ h σ st hr)
    ·exact h.elim
   | ret=>exact nU.2 ⟨σ,tm,M,hr,h⟩
theorem Lk (hr:RX σ tm M st) {r:H1} {K:AV->Prop} (h:SP tm M r K) : ∃ v,EN st r=some (A8 σ v)/\K v/\A8 σ v=BM σ v:=by
 cases r with
 | tmp t =>
  simp only[SP]at h;obtain ⟨h1,h2,h3⟩:=gQ (σ:=σ) h;refine ⟨_,?_,h3,h2⟩;rcases hr.tm t with e|e
  ·exact absurd e h1
  ·simp only[EN,e]
   cases hv:tg tm t<;>rw[hv]at h h1<;>first|rfl|exact (h:False).elim
 | cell t agg n =>
  simp only[SP]at h;split at h
  ·rename_i key i j e
   split at h
   ·rename_i s cs hm
    cases hi:Nat.beq i 0<;>simp only[hi,cond_true,cond_false]at h;obtain rfl:=BB.1 hi;split at h
    ·rename_i ds hp
     rw[F7]at h;rcases hr.tm t with e'|e'
     ·rw[e]at e';cases e'
     ·have hs:=hr.sat.site _ _ _ hm
      have q9:=hr.sat.c9 _ _ _ (DS hm);rw[hs]at q9;have flat : ∀ v,HV agg (ds.map (A5 σ))=some (A8 σ v)->EN st (.cell t agg n)=some (A8 σ v):=by
       intro v hv;simp only[EN,e',e,DN,AG.js,AG.get,hs,q9,A3.c9,List.getElem?_cons_zero,SH hp,hv]
      cases agg
      ·simp only[jv]at h
       split at h
       ·rename_i c
        obtain ⟨_,h1,h2⟩:=gR (σ:=σ) h;refine ⟨c,flat c (by rw[h1];rfl),h2,?_⟩;rw[h1];cases c<;>first|rfl|exact (h:False).elim
       ·exact h.elim
      ·exact ⟨.agg ds,flat _ rfl,h,rfl⟩
    ·exact h.elim
   ·exact h.elim
  ·exact h.elim
theorem ZN (hr:RX σ tm M st) : ∀ {l:List H1} {K:List AV->Prop},U9 tm M l K -> ∃ vs,l.mapM (EN st)=some (vs.map (A8 σ))/\K vs/\vs.map (A8 σ)=vs.map (BM σ)
 | [],K,h=>⟨[],rfl,h,rfl⟩
 | r::l,K,h=>by
  obtain ⟨v,h1,h2,h3⟩:=Lk hr (show SP tm M r λ v=>U9 tm M l λ vs=>K (v::vs) from h);obtain ⟨vs,h4,h5,h6⟩:=ZN hr h2;exact ⟨v::vs,by rw[List.mapM_cons,h1,h4];rfl,h5,by rw[List.map_cons,List.map_cons,h3,h6]⟩
theorem lU (hs:IP σ st.own M) {q:Bool} : ∀ {l:List AV} {K:List AV->Prop},Z2 q M l K -> ∃ l',(l.map (A8 σ)).mapM (C7 st.own q)=some l'/\K l' /\ ∀ v∈l,A8 σ v=BM σ v
 | [],K,h=>⟨[],rfl,h,λ v hv=>by cases hv⟩
 | v::r,K,h=>by
  obtain ⟨v',h1,h2,_,h0⟩:=Z3 hs (show N9 q M [] v λ v'=>Z2 q M r λ r'=>K (v'::r') from h);obtain ⟨l',h3,h4,h5⟩:=lU hs h2;refine ⟨v'::l',?_,h4,λ u hu => ?_⟩
  ·rw[List.map_cons,List.mapM_cons,show C7 st.own q (A8 σ v)=some v' from h1,h3];rfl
  ·rcases List.mem_cons.1 hu with rfl|hu
   ·exact h0
   ·exact h5 u hu
theorem Le {own:AG} {q:Bool} {v v':AV} (h:C7 own q v=some v'):OA own q v=some v':=by
 cases v with
 | j4 vs=>simp [C7,snap]at h
 | _=>exact h
theorem Jq {f:AV->Option AV} {x y:AV} {r l':List AV} (h:(x::y::r).mapM f=some l') : ∃ a b c,l'=a::b::c:=by
 rw[List.mapM_cons,List.mapM_cons]at h;cases hx:f x with
 | none=>rw[hx]at h;cases h
 | some a =>
  cases hy:f y with
  | none=>rw[hx,hy]at h;cases h
  | some b =>
   cases hr:r.mapM f with
   | none=>rw[hx,hy,hr]at h;cases h
   | some c =>
    rw[hx,hy,hr]at h;exact ⟨a,b,c,(Option.some.inj h).symm⟩
theorem bQ {fn:AFn} {r:AV} (hr:RX σ tm M st) (h:NQ fn r tm M):Q8 fn r st:=by
 unfold NQ at h;obtain ⟨vs,h1,h2,h3⟩:=ZN hr h;obtain ⟨l',h4,h5,h6⟩:=lU hr.sat h2;unfold Q8;rw[h1,Option.map_some,Option.bind_some];match vs,l',h4,h5 with
 | [],l',h4,h5 =>
  obtain rfl:=Option.some.inj h4;obtain ⟨e,hc⟩:=h5;exact ⟨by rw[<-e];rfl,hc⟩
 | [v],l',h4,h5 =>
  rw[List.map_cons,List.map_nil,List.mapM_cons]at h4;cases hv:C7 st.own false (A8 σ v) with
  | none=>rw[hv]at h4;cases h4
  | some v' =>
   rw[hv]at h4;obtain rfl:=Option.some.inj h4;obtain ⟨e,hc⟩:=h5;exact ⟨by rw[<-e];exact Le hv,hc⟩
 | v::u::w,l',h4,h5 =>
  obtain ⟨a,b,c,rfl⟩:=Jq (show List.mapM (C7 st.own false) (A8 σ v::A8 σ u::w.map (A8 σ))=some l' from h4);obtain ⟨e,hc⟩:=h5;refine ⟨?_,hc⟩;rw[<-e];have h4:List.mapM (C7 st.own false) (A8 σ v::A8 σ u::w.map (A8 σ))=some (a::b::c):=h4;show Option.map AV.j4 (List.mapM (C7 st.own false) (A8 σ v::A8 σ u::w.map (A8 σ)))=_;rw[h4];rfl
def NV:AV->Bool
 | .agg cs=>DQ cs
 | v=>nf v
def IU:List AV->Bool
 | []=>true
 | v::r=>bif NV v then IU r else false
theorem T8 {v:AV} (h:NV v=true):A8 σ v=v:=by
 cases v with
 | agg cs=>simp only[NV]at h;simp only[A8,BM,HS h]
 | _=>first|rfl|cases h
theorem RN {σ:E4} : ∀ {vs:List AV} {i:Nat},IU vs=true -> ∀ j,e9 (CB i vs) j=A8 σ (e9 (CB i vs) j)
 | [],_,_,_=>rfl
 | v::r,i,h,j=>by
  simp only[IU]at h;cases hv:NV v<;>simp only[hv,cond_true,cond_false]at h
  ·cases h
  ·simp only[zW,S1]
   split
   ·exact (T8 hv).symm
   ·exact RN h j
theorem E3.x {f:Nat} {fn:AFn} {vs:List AV} {r:AV} (hL:L f=some fn) (hp:Nat.beq vs.length fn.v8=true) (hd:IU vs=true) (h:AA L [.code fn.body] (CB 0 vs) [] (NQ fn r)):E3 L f vs r:=by
 refine E3.fwd hL (BB.1 hp) (nR (h (λ_ _=>(0,0)) ⟨CB 0 vs,AG.emp⟩ ⟨λ j=>Or.inr ?_,?_⟩) ?_)
 ·rw[IH];exact RN hd j
 ·exact ⟨(λ_ _ _ e=>by cases e),(λ_ _ _ e=>by simp [c6,c7]at e),(λ_ _ _ e=>by simp [c6,c7]at e),(λ_ _ _ _ _ _ e=>by simp [c6,c7]at e),(λ_ _ _ e=>by simp [c6,c7]at e)⟩
 ·rintro s ⟨σ,tm,M,hr,hq⟩
  exact bQ hr hq
theorem Ev.x {f:Nat} {fn:AFn} {vs:List AV} {r:AV} (hL:L f=some fn) (hp:Nat.beq vs.length fn.v8=true) (hd:IU vs=true) (h:AA L [.code fn.body] (CB 0 vs) [] (NQ fn r)) (hs:fn.jy=false:=by rfl):Ev L f vs r:=(E3.x hL hp hd h).ev hL hs
def E7:List (Nat × Nat)->Nat->Nat
 | [],k=>k
 | (a,b)::r,k=>bif Nat.beq k a then b else E7 r k
def VC (τ:List (Nat × Nat)):AV->AV
 | .row k t z o n => .row (E7 τ k) t z o n
 | .ptr k t i j => .ptr (E7 τ k) t i j
 | v=>v
def N6 (τ:List (Nat × Nat)):List AV->List AV
 | []=>[]
 | v::r=>VC τ v::N6 τ r
def QV (τ:List (Nat × Nat)):AV->AV
 | .agg cs => .agg (N6 τ cs)
 | .fn p f g cs => .fn p f g (N6 τ cs)
 | v=>VC τ v
def VE (τ:List (Nat × Nat)):List AV->List AV
 | []=>[]
 | v::r=>QV τ v::VE τ r
def VD (τ:List (Nat × Nat)):AV->AV
 | .j4 cs => .j4 (VE τ cs)
 | v=>QV τ v
def VF (τ:List (Nat × Nat)):List (List AV)->List (List AV)
 | []=>[]
 | v::r=>N6 τ v::VF τ r
def IC (τ:List (Nat × Nat)):A3->A3
 | .bx cs => .bx (N6 τ cs)
 | .rw z es => .rw z es
 | .bs z es => .bs z (VF τ es)
 | .mx rows => .mx rows
 | .hx i v rows => .hx i v rows
 | .vw w rows => .vw w rows
variable {τ:List (Nat × Nat)}
theorem SS : ∀ l:List AV,N6 τ l=l.map (VC τ)
 | []=>rfl
 | v::r=>by rw[N6,SS r];rfl
theorem kV : ∀ l:List AV,VE τ l=l.map (QV τ)
 | []=>rfl
 | v::r=>by rw[VE,kV r];rfl
theorem VS (v:AV):A5 (λ k t=>σ (E7 τ k) t) v=A5 σ (VC τ v):=by cases v<;>rfl
theorem aE (v:AV):BM (λ k t=>σ (E7 τ k) t) v=BM σ (QV τ v):=by
 cases v with
 | agg cs=>simp only[BM,QV,SS,List.map_map];exact congrArg AV.agg (List.map_congr_left λ v _=>VS v)
 | fn p f g cs=>simp only[BM,QV,SS,List.map_map];exact congrArg (AV.fn p f g) (List.map_congr_left λ v _=>VS v)
 | _=>rfl
theorem Nk (v:AV):A8 (λ k t=>σ (E7 τ k) t) v=A8 σ (VD τ v):=by
 cases v with
 | j4 cs=>simp only[A8,VD,kV,List.map_map];exact congrArg AV.j4 (List.map_congr_left λ v _=>aE v)
 | agg cs=>exact aE (.agg cs)
 | fn p f g cs=>exact aE (.fn p f g cs)
 | _=>rfl
theorem kW : ∀ l:List (List AV),VF τ l=l.map (N6 τ)
 | []=>rfl
 | v::r=>by rw[VF,kW r];rfl
theorem SB {k:Nat} : ∀ (rows:List (Option (Nat × List (List AV)))) (i:Nat),BR (λ k t=>σ (E7 τ k) t) k i rows=BR σ (E7 τ k) i rows
 | [],i=>rfl
 | none::r,i=>by rw[BR,BR,SB r]
 | some (z,es)::r,i=>by rw[BR,BR,SB r]
theorem rM (c:A3) (k:Nat):c.c9 (λ k t=>σ (E7 τ k) t) k=(IC τ c).c9 σ (E7 τ k):=by
 cases c with
 | bx cs =>
  simp only[A3.c9,IC,SS,List.length_map,List.map_map];rw[List.map_congr_left λ v _=>VS v];rfl
 | rw z es=>rfl
 | bs z es =>
  simp only[A3.c9,IC,kW,List.map_map];congr 1;refine List.map_congr_left λ cs _ => ?_
  simp only[Function.comp,SS,List.map_map];exact List.map_congr_left λ v _=>VS v
 | mx rows=>simp only[A3.c9,IC,SB]
 | hx i v rows=>simp only[A3.c9,IC,SB]
 | vw w rows=>simp only[A3.c9,IC,SB]
def rf (k s:Nat) (c:A3):Mem->Mem
 | []=>[(k,s,c)]
 | (j,s',c')::r=>bif Nat.beq k j then (k,s,c)::r else (j,s',c')::rf k s c r
def jt:Mem->Mem
 | []=>[]
 | (k,s,c)::r=>rf k s c (jt r)
theorem jI (k s:Nat) (c:A3) (j:Nat) : ∀ M:Mem,c7 (rf k s c M) j=bif Nat.beq j k then some (s,c) else c7 M j
 | []=>rfl
 | (i,s',c')::r=>by
  simp only[rf];cases hk:Nat.beq k i
  ·simp only[cond_false,c7,jI k s c j r]
   cases hj:Nat.beq j i<;>cases Qo:Nat.beq j k<;>simp only[cond_true,cond_false];exact absurd ((BB.1 Qo).symm.trans (BB.1 hj)) (EY.1 hk)
  ·obtain rfl:=BB.1 hk
   simp only[cond_true,c7];cases Nat.beq j k<;>rfl
theorem QN (j:Nat) : ∀ M:Mem,c7 (jt M) j=c7 M j
 | []=>rfl
 | (k,s,c)::r=>by simp only[jt,jI,QN j r,c7]
theorem UX (k t:Nat):c6 (jt M) k t=c6 M k t:=by simp only[c6,QN]
def rb (τ:List (Nat × Nat)) (M:Mem):List (Nat × Nat × A3)->List (Option (Nat × A3))
 | []=>[]
 | (k,_,_)::r=>c7 M (E7 τ k)::rb τ M r
def re (τ:List (Nat × Nat)):List (Nat × Nat × A3)->List (Option (Nat × A3))
 | []=>[]
 | (_,s,c)::r=>some (s,IC τ c)::re τ r
def Bw (tm:Tm):Tm->List AV
 | []=>[]
 | (j,_)::r=>tg tm j::Bw tm r
def Bx (τ:List (Nat × Nat)):Tm->List AV
 | []=>[]
 | (_,v)::r=>VD τ v::Bx τ r
def U2:List Nat->Bool
 | []=>true
 | k::r=>bif NB k r then false else U2 r
def keys (τ:List (Nat × Nat)):Mem->List Nat
 | []=>[]
 | (k,_,_)::r=>E7 τ k::keys τ r
theorem jH : ∀ {M':Mem} {M:Mem},rb τ M M'=re τ M' -> ∀ k s c,c7 M' k=some (s,c)->c7 M (E7 τ k)=some (s,IC τ c)
 | [],_,_,_,_,_,e=>by cases e
 | (i,s',c')::r,M,h,k,s,c,e=>by
  simp only[rb,re,List.cons.injEq]at h;simp only[c7]at e;cases hb:Nat.beq k i<;>simp only[hb,cond_true,cond_false]at e
  ·exact jH h.2 k s c e
  ·simp only[Option.some.injEq,Prod.mk.injEq]at e
   obtain ⟨rfl,rfl⟩:=e;rw[BB.1 hb];exact h.1
theorem YY : ∀ {M:Mem} {k s:Nat} {c:A3},c7 M k=some (s,c)->NB (E7 τ k) (keys τ M)=true
 | (i,s',c')::r,k,s,c,e=>by
  simp only[c7]at e;simp only[keys,NB];cases hb:Nat.beq k i<;>simp only[hb,cond_true,cond_false]at e
  ·rw[YY e];cases Nat.beq (E7 τ k) (E7 τ i)<;>rfl
  ·rw[BB.1 hb];simp
theorem jT : ∀ {M:Mem},U2 (keys τ M)=true -> ∀ {k k' s s':Nat} {c c':A3},c7 M k=some (s,c)->c7 M k'=some (s',c')->E7 τ k=E7 τ k'->k=k'
 | [],_,_,_,_,_,_,_,e,_,_=>by cases e
 | (i,s0,c0)::r,h,k,k',s,s',c,c',e,e',hk=>by
  simp only[keys,U2]at h;cases hm:NB (E7 τ i) (keys τ r)<;>simp only[hm,cond_true,cond_false]at h
  ·simp only[c7]at e e'
   cases hb:Nat.beq k i<;>cases j9:Nat.beq k' i<;>simp only[hb,j9,cond_true,cond_false]at e e'
   ·exact jT h e e' hk
   ·obtain rfl:=BB.1 j9
    have:=YY (τ:=τ) e
    rw[hk,hm]at this;cases this
   ·obtain rfl:=BB.1 hb
    have:=YY (τ:=τ) e'
    rw[<-hk,hm]at this;cases this
   ·exact (BB.1 hb).trans (BB.1 j9).symm
  ·cases h
theorem mQ : ∀ {v9:Tm} {tm:Tm},Bw tm v9=Bx τ v9 -> ∀ j,tg v9 j = .any\/tg tm j=VD τ (tg v9 j)
 | [],_,_,_=>Or.inl rfl
 | (i,v)::r,tm,h,j=>by
  simp only[Bw,Bx,List.cons.injEq]at h;simp only[tg];cases hb:Nat.beq j i<;>simp only[cond_true,cond_false]
  ·exact mQ h.2 j
  ·rw[BB.1 hb];exact Or.inr h.1
def w7 (ts:List Nat) (tm:Tm):Tm:=match ts with
 | []=>tm
 | t::ts=>qa (mask 0 (t::ts)) tm
def MQ (τ:List (Nat × Nat)) (tm:Tm) (M:Mem) (v9:Tm) (M':Mem):Prop :=
 fT (qa 0 v9) λ l=>fM (jt M') λ m=>Bw tm l=Bx τ l/\rb τ M m=re τ m/\U2 (keys τ m)=true
theorem B0 {k:List It} {v9:Tm} {M':Mem} {Q:Tm->Mem->Prop} (τ:List (Nat × Nat)) (he:MQ τ tm M v9 M') (h:AA L k v9 M' Q):AA L k tm M Q:=by
 unfold MQ at he;rw[R1,IV]at he;obtain ⟨ht,hm,hn⟩:=he;intro σ st hr;have hg : ∀ k s c,c7 M' k=some (s,c)->c7 M (E7 τ k)=some (s,IC τ c):=λ k s c e=>jH hm k s c (by rw[QN];exact e)
 have yu : ∀ k t c,c6 M' k t=some c->c6 M (E7 τ k) t=some (IC τ c):=by
  intro k t c e;obtain ⟨s,c0,g1,g2,g3⟩:=H7 e;have:=hg k s c0 g1
  cases t with
  | zero=>rw[g2 rfl];exact DS this
  | succ i =>
   obtain ⟨rows,z,es,(rfl|⟨a,v,rfl⟩)|⟨w,rfl⟩,hr,rfl⟩:=g3 i rfl
   ·simp [c6,this,IC,hr]
   ·simp [c6,this,IC,hr]
   ·simp [c6,this,IC,hr]
 refine h (λ k t=>σ (E7 τ k) t) st ⟨λ j => ?_,⟨?_,?_,?_,?_,?_⟩⟩
 ·have:=mQ ht j
  rw[SZ,WM,cond_false]at this;rcases this with e|e
  ·exact Or.inl e
  ·rcases hr.tm j with e'|e'
   ·left
    rw[e']at e;cases hv:tg v9 j<;>rw[hv]at e<;>first|rfl|cases e
   ·right
    rw[e',e,Nk]
 ·intro k s c e;exact hr.sat.site _ _ _ (hg k s c e)
 ·intro k t c e;rw[rM];exact hr.sat.c9 _ _ _ (yu k t c e)
 ·intro k t c e;exact hr.sat.old _ _ _ (yu k t c e)
 ·intro k t k' t' c c' e e' hk
  obtain ⟨q1,q2⟩:=hr.sat.inj _ _ _ _ _ _ (yu _ _ _ e) (yu _ _ _ e') hk;obtain ⟨s,c0,g,_⟩:=H7 e;obtain ⟨s',Tj,g',_⟩:=H7 e';exact ⟨jT hn (by rw[QN];exact g) (by rw[QN];exact g') q1,q2⟩
 ·intro k t c e hw
  exact hr.sat.low _ _ _ (yu k t c e) (by cases c<;>exact hw)
theorem BQ {k:List It} {v9:Tm} {M':Mem} {Q:Tm->Mem->Prop} (τ:List (Nat × Nat)) (h:AA L k v9 M' Q) (he:MQ τ tm M v9 M':=by (conv=>whnf);exact ⟨rfl,rfl,rfl⟩):AA L k tm M Q:=B0 τ he h
theorem nI {k:List It} {Q:Tm->Mem->Prop} (h:AA L k (qa 0 tm) (jt M) Q):AA L k tm M Q:=by
 intro σ st hr;refine h σ st ⟨λ j => ?_,⟨?_,?_,?_,?_,?_⟩⟩
 ·rw[SZ,WM,cond_false];exact hr.tm j
 ·intro k s c e;rw[QN]at e;exact hr.sat.site _ _ _ e
 ·intro k t c e;rw[UX]at e;exact hr.sat.c9 _ _ _ e
 ·intro k t c e;rw[UX]at e;exact hr.sat.old _ _ _ e
 ·intro k t k' t' c c' e e' hk
  rw[UX]at e e';exact hr.sat.inj _ _ _ _ _ _ e e' hk
 ·intro k t c e hw;rw[UX]at e;exact hr.sat.low _ _ _ e hw
theorem F2 {k:List It} {c:BA} {Q:Tm->Mem->Prop} (h:AA L (.code c :: .lp c::k) tm M Q):AA L (.lp c::k) tm M Q:=λ σ st hr=>aP.2 (h σ st hr)
theorem Q2 {α:Type} {k:List It} {c:BA} {Q:Tm->Mem->Prop} (m:α->Nat) (P:α->Prop) (vs:α->Tm) (Ms:α->Mem) (ts:List Nat) (τ:List (Nat × Nat)) (a:α)
  (he:MQ τ tm M (vs a++w7 ts tm) (Ms a++M)) (hp:P a)
  (step : ∀ a,P a->(∀ a',m a'<m a->P a'->AA L (.lp c::k) (vs a'++w7 ts tm) (Ms a'++M) Q)->AA L (.code c :: .lp c::k) (vs a++w7 ts tm) (Ms a++M) Q):AA L (.lp c::k) tm M Q:=by
 have key : ∀ n a,m a<n->P a->AA L (.lp c::k) (vs a++w7 ts tm) (Ms a++M) Q:=by
  intro n;induction n with
  | zero=>intro a h;omega
  | succ n ih =>
   intro a ha hp;exact F2 (step a hp λ a' h1 h2=>ih a' (by omega) h2)
 exact B0 τ he (key (m a+1) a (by omega) hp)
end
end Go.c4
namespace Go.c4
section
variable {α:Type} {enc:α->List AV} {l:List α} {L:Lib}
theorem AH {p q A B:Prop} (h1:p->A) (h2:q->B):AF p q A B:=⟨h1,h2⟩
theorem A9 {p A:Prop} (h1:p) (h2:A):AR p A:=⟨h1,h2⟩
section
variable {K:AV->Prop} {a b:Int} {k k':IntKind} {op:BinOp}
theorem S8 {v:AV} (h:C6 op k a k' b=some v) (hk:K v):AB op k a k' b K:=⟨v,h,hk⟩
theorem AZ (hr : -9223372036854775808<=a+b/\a+b<=9223372036854775807) (hk:K (.int .i64 (a+b))):AB .add .i64 a .i64 b K:=⟨_,by simp only[C6,if_true];rw[IntWalk.i64_in _ hr],hk⟩
theorem BX (hr : -9223372036854775808<=a-b/\a-b<=9223372036854775807) (hk:K (.int .i64 (a-b))):AB .sub .i64 a .i64 b K:=⟨_,by simp only[C6,if_true];rw[IntWalk.i64_in _ hr],hk⟩
theorem DW (hr : -9223372036854775808<=a*b/\a*b<=9223372036854775807) (hk:K (.int .i64 (a*b))):AB .mul .i64 a .i64 b K:=⟨_,by simp only[C6,if_true];rw[IntWalk.i64_in _ hr],hk⟩
theorem OL (hb:0<b) (h1:(0<=a\/a%b=0)->0<=a%b->a%b<b->K (.int .i64 (a%b))) (h2:a<0->a%b≠0->0<=a%b->a%b<b->K (.int .i64 (a%b-b))):AB .rem .i64 a .i64 b K:=by
 have h5:0<=a%b:=Int.emod_nonneg _ (by omega);have h6:a%b<b:=Int.emod_lt_of_pos _ hb;have e:C6 .rem .i64 a .i64 b=some (.int .i64 (a.tmod b)):=by simp only[C6];rw[if_pos ⟨trivial,by omega⟩]
 by_cases hc:0<=a\/a%b=0
 ·rw[mR hb,if_pos hc]at e
  exact ⟨_,e,h1 hc h5 h6⟩
 ·rw[mR hb,if_neg hc]at e
  exact ⟨_,e,h2 (by omega) (by omega) h5 h6⟩
theorem NN (hb:0<b) (ha : -9223372036854775808<=a/\a<=9223372036854775807) (h1:(0<=a\/a%b=0)->K (.int .i64 (a/b))) (h2:a<0->a%b≠0->K (.int .i64 (a/b+1))):AB .quo .i64 a .i64 b K:=by
 have hr:=vP (m:=b) (by omega) ha;have e:C6 .quo .i64 a .i64 b=some (.int .i64 (IntKind.i64.wrap (a.tdiv b))):=by simp only[C6];rw[if_pos ⟨trivial,by omega⟩]
 by_cases hc:0<=a\/a%b=0
 ·rw[mP hb,if_pos hc,IntWalk.i64_in _ hr]at e
  exact ⟨_,e,h1 hc⟩
 ·have Ri:a/b<0:=Int.ediv_neg_of_neg_of_pos (by omega) hb
  rw[mP hb,if_neg hc,IntWalk.i64_in _ (by omega)]at e;exact ⟨_,e,h2 (by omega) (by omega)⟩
theorem pB (h:0<=b/\b<=63) (hk:K (.int .i64 (a/pw b))):AB .shr .i64 a k' b K:=⟨_,Mf h,hk⟩
theorem pF (hk:K (.int k (k.wrap (a+b)))):AB .add k a k b K:=⟨_,by simp only[C6,if_true],hk⟩
theorem B7.neg (hr : -9223372036854775808 <= -a /\ -a<=9223372036854775807) (hk:K (.int .i64 (-a))):B7 .neg .i64 a K:=⟨_,by simp only[OE];rw[show (0:Int)-a = -a by omega,IntWalk.i64_in _ hr],hk⟩
theorem B7.go {op:UnOp} {v:AV} (h:OE op (.int k a)=some v) (hk:K v):B7 op k a K:=⟨v,h,hk⟩
end
theorem Q3 {k:IntKind} {n:Int} {K:Int->Prop} (e:k.wrap n=n) (h:K n):AQ k n K:=by unfold AQ;rw[e];exact h
theorem B5 {n:Int} {K:Int->Prop} (hr:0<=n/\n<=18446744073709551615) (h:K n):AQ .u64 n K:=Q3 (IntWalk.u64_in _ hr) h
theorem OG {n:Int} {K:Int->Prop} (hr : -9223372036854775808<=n/\n<=9223372036854775807) (h:K n):AQ .i64 n K:=Q3 (IntWalk.i64_in _ hr) h
theorem BJ {a:Int} {z:Nat} {K:List AV->Prop} {e:α} (he:l[a.toNat]? = some e) (h0:0<=a) (hz:(enc e).length=z) (h:K (enc e)):AY (l.map enc) a z K:=⟨h0,enc e,by simp [he],hz,h⟩
theorem WB {a:Int} {z:Nat} {K:List AV->Prop} (h0:0<=a/\a<l.length) (hz : ∀ e,(enc e).length=z) (h : ∀ e,l[a.toNat]? = some e->K (enc e)):AY (l.map enc) a z K:=by
 have he:l[a.toNat]? = some (l[a.toNat]'(by omega)):=zE _;exact BJ he h0.1 (hz _) (h _ he)
theorem pI {n z:Nat} {K:List AV->Prop} (hn:n<l.length) (hz : ∀ e,(enc e).length=z) (h : ∀ e,l[n]? = some e->K (enc e)):AY (l.map enc) (n:Int) z K :=
 WB ⟨by omega,by omega⟩ hz h
theorem bH {i j n:Nat} {K:List AV->Prop} {f:α->List AV} (hi:i<l.length) (hp : ∀ e,part (enc e) j n=some (f e)) (h : ∀ e,l[i]? = some e->K (f e)):A7 (l.map enc) (0+((i:Int)).toNat) j n K:=by
 have he:l[i]? = some l[i]:=zE _;rw[Nat.zero_add,Int.toNat_natCast];exact ⟨enc l[i],f l[i],by simp [he],hp _,h _ he⟩
theorem S6 {i:Int} {j n:Nat} {K:List AV->Prop} {f:α->List AV} (hi:0<=i/\i<l.length) (hp : ∀ e,part (enc e) j n=some (f e)) (h : ∀ e,l[i.toNat]? = some e->K (f e)):A7 (l.map enc) (0+i.toNat) j n K:=by
 have hl:i.toNat<l.length:=by omega
 have he:l[i.toNat]? = some l[i.toNat]:=zE _;rw[Nat.zero_add];exact ⟨enc l[i.toNat],f l[i.toNat],by rw[List.getElem?_map,he];rfl,hp _,h _ he⟩
theorem NR {i:Nat} {vs:List AV} {K:List (List AV)->Prop} (e:α) (he:vs=enc e) (hz : ∀ x,(enc x).length=vs.length) (hi:i<l.length) (h:K ((l.set i e).map enc)):A6 (l.map enc) (0+((i:Int)).toNat) 0 vs K:=by
 rw[Nat.zero_add,Int.toNat_natCast];refine ⟨enc l[i],by simp [zE hi],by rw[hz];omega,?_⟩;rw[show splice (enc l[i]) 0 vs=vs by simp [splice,<-hz l[i]],he,<-List.map_set];exact h
theorem V6 {i j n:Nat} {K:List AV->Prop} {e:α} {ds:List AV} (he:l[i]? = some e) (hp:part (enc e) j n=some ds) (h:K ds):A7 (l.map enc) i j n K:=⟨enc e,ds,by simp [he],hp,h⟩
theorem Lf {cs vs:List AV} (h:cs.length=vs.length):splice cs 0 vs=vs:=by
 simp [splice,<-h]
theorem pN {i:Nat} {vs:List AV} {K:List (List AV)->Prop} (e:α) (he:vs=enc e) (hz : ∀ x,(enc x).length=vs.length) (hi:i<l.length) (h:K ((l.set i e).map enc)):A6 (l.map enc) i 0 vs K:=by
 refine ⟨enc l[i],by simp [zE hi],by rw[hz];omega,?_⟩;rw[Lf (hz _),he,<-List.map_set];exact h
theorem FF {a b:Int} {bytes:Nat} {zero:List AV} {K:List (List AV)->Nat->Prop} (x:α) (n:Nat) (hx:zero=enc x) (hn:a=n) (hr:a<=b/\b*bytes<=140737488355328/\b<=9223372036854775807) (h:K ((List.replicate n x).map enc) n):BS a b bytes zero K:=by
 subst hn hx;refine ⟨⟨by omega,hr.1,by simpa [D6] using hr.2.1,hr.2.2⟩,?_⟩;simpa using h
theorem AW {K:Nat->Prop} (h:K l.length):AP (l.map enc) K:=by unfold AP;simpa using h
theorem FA {len z bytes:Nat} {vs:List AV} {K:List (List AV)->Nat->Prop} (e:α) (he:vs=enc e) (hl:len=l.length) (hz:vs.length=z) (hr:(l.length+1)*bytes<=140737488355328) (af:l.length+1<=9223372036854775807) (h:K ((l++[e]).map enc) (l++[e]).length):BO (l.map enc) len [vs] z bytes K:=by
 subst hl;refine ⟨by simp,by simpa using hz,by simpa [D6] using hr,by simpa using af,?_⟩;rw[List.take_of_length_le (by simp)];simpa [he] using h
theorem aT {len z bytes:Nat} {l':List α} {K:List (List AV)->Nat->Prop} (hl:len=l.length) (hz : ∀ x,(enc x).length=z) (hr:(l.length+l'.length)*bytes<=140737488355328) (af:l.length+l'.length<=9223372036854775807) (h:K ((l++l').map enc) (l++l').length):BO (l.map enc) len (l'.map enc) z bytes K:=by
 subst hl;refine ⟨by simp,by simp [hz],by simpa [D6] using hr,by simpa using af,?_⟩;rw[List.take_of_length_le (by simp)];simpa using h
theorem P0 {z bytes:Nat} {vs:List AV} {K:List (List AV)->Nat->Prop} (e:α) (he:vs=enc e) (hz:vs.length=z) (hb:bytes<=140737488355328) (h:K ([e].map enc) 1):BW [vs] z bytes K :=
 ⟨by simpa using hz,by simpa [D6] using hb,by simp,by simpa [he] using h⟩
theorem NK {z bytes:Nat} {K:List (List AV)->Nat->Prop} (hz : ∀ x,(enc x).length=z) (hr:l.length*bytes<=140737488355328) (af:l.length<=9223372036854775807) (h:K (l.map enc) l.length):BW (l.map enc) z bytes K :=
 ⟨by simp [hz],by simpa [D6] using hr,by simpa using af,by simpa using h⟩
theorem TF {off len:Nat} {K:List (List AV)->Prop} (hl:off+len<=l.length) (h:K (((l.drop off).take len).map enc)):BL (l.map enc) off len K :=
 ⟨by simpa using hl,by rw[<-List.map_drop,<-List.map_take];exact h⟩
theorem Y9 : ∀ {e:List AV},E1 e=true->J5 e=true/\e.map nl=e
 | [],_=>⟨rfl,rfl⟩
 | v::r,h=>by
  have hv:E1 r=true:=by cases v<;>simp only[E1]at h<;>first|cases h|exact h
  obtain ⟨h1,h2⟩:=Y9 hv;cases v<;>simp only[E1]at h<;>first|cases h|exact ⟨h1,by rw[List.map_cons,h2];rfl⟩
theorem jW : ∀ {es:List (List AV)},(∀ e∈es,E1 e=true)->es.map (λ e=>e.map nl)=es
 | [],_=>rfl
 | e::r,h=>by rw[List.map_cons,(Y9 (h e List.mem_cons_self)).2,jW λ x hx=>h x (List.mem_cons_of_mem _ hx)]
theorem RC {es:List (List AV)} {off len:Nat} {K:List (List AV)->Prop} (hl:off+len<=es.length) (hz : ∀ e∈es,E1 e=true) (h:K ((es.drop off).take len)):A0 es off len K :=
 ⟨hl,λ e he=>(Y9 (hz e he)).1,by rw[jW λ e he=>hz e (List.mem_of_mem_drop (List.mem_of_mem_take he))];exact h⟩
theorem DX {off len:Nat} {K:List (List AV)->Prop} (hz : ∀ x,E1 (enc x)=true) (ho:off=0) (hl:len=l.length) (h:K (l.map enc)):A0 (l.map enc) off len K:=by
 subst hl ho;refine RC (by simp) (λ e he => ?_) (by rw[List.drop_zero,List.take_of_length_le (by simp)];exact h);obtain ⟨x,_,rfl⟩:=List.mem_map.1 he;exact hz x
theorem GX {off len:Nat} {K:List (List AV)->Prop} (hz : ∀ x,E1 (enc x)=true) (hl:off+len<=l.length) (h:K (((l.drop off).take len).map enc)):A0 (l.map enc) off len K:=by
 refine RC (by simpa using hl) (λ e he => ?_) (by rw[<-List.map_drop,<-List.map_take];exact h);obtain ⟨x,_,rfl⟩:=List.mem_map.1 he;exact hz x
theorem EG {e:List AV} {K:List (List AV)->Prop} (h:K [e]):BL [e] 0 1 K:=⟨by simp,h⟩
theorem HR {e:List AV} {K:List (List AV)->Prop} (h0:E1 e=true) (h:K [e]):A0 [e] 0 1 K:=RC (by simp) (by simpa using h0) h
theorem RB {e e':List AV} {K:List (List AV)->Prop} (h0:E1 e=true) (h1:E1 e'=true) (h:K [e,e']):A0 [e,e'] 0 2 K:=RC (by simp) (by simpa using ⟨h0,h1⟩) h
section
variable {β:Type} {z:Nat} {ll:List (List β)} {en:β->List AV}
abbrev FJ (z:Nat) (en:β->List AV) (ll:List (List β)):List (Option (Nat × List (List AV))):=ll.map λ r=>some (z,r.map en)
theorem aS {len bytes:Nat} {r:List β} {K:List (Option (Nat × List (List AV)))->Nat->Prop} (hl:len=ll.length) (hr:(ll.length+1)*bytes<=140737488355328) (af:ll.length+1<=9223372036854775807) (h:K (FJ z en (ll++[r])) (ll++[r]).length):CK (FJ z en ll) len (some (z,r.map en)) bytes K:=by
 subst hl;exact ⟨by simp,by simpa [D6] using hr,af,by simpa [FJ] using h⟩
theorem kX (q:Bool) : ∀ ll:List (List β),N8 q (FJ z en ll)=ll.map λ r=>[AV.sl q (r.map en)]
 | []=>rfl
 | r::l=>by simp only[FJ,List.map_cons,N8];rw[show N8 q (l.map λ r=>some (z,r.map en))=_ from kX q l]
theorem TG {q:Bool} {off len:Nat} {K:List (List AV)->Prop} (hz : ∀ x,E1 (en x)=true) (ho:off=0) (hl:len=ll.length) (h:K (ll.map λ r=>[AV.sl q (r.map en)])):CI q (FJ z en ll) off len K:=by
 refine ⟨ho,by simpa using hl,λ z' es hm e he => ?_,by rw[kX];exact h⟩;obtain ⟨r,_,hr⟩:=List.mem_map.1 hm;simp only[Option.some.injEq,Prod.mk.injEq]at hr;obtain ⟨rfl,rfl⟩:=hr;obtain ⟨x,_,rfl⟩:=List.mem_map.1 he;exact hz x
end
theorem oK {len:Nat} {a:Int} {K:Nat->Nat->Prop} (h0:0<=a/\a<=len) (h:K a.toNat len):BH (some a) none len K:=⟨a.toNat,len,⟨h0.1,rfl⟩,rfl,by omega,h⟩
theorem oJ {len:Nat} {b:Int} {K:Nat->Nat->Prop} (h0:0<=b/\b<=len) (h:K 0 b.toNat):BH none (some b) len K:=⟨0,b.toNat,rfl,⟨h0.1,h0.2,rfl⟩,by omega,h⟩
theorem I4 {len:Nat} {a b:Int} {K:Nat->Nat->Prop} (h0:0<=a/\a<=b/\b<=len) (h:K a.toNat b.toNat):BH (some a) (some b) len K:=⟨a.toNat,b.toNat,⟨h0.1,rfl⟩,⟨by omega,by omega,rfl⟩,by omega,h⟩
theorem RA {z:Nat} {lo hi:Option Int} {K:List (List AV)->Prop} (hz : ∀ x,(enc x).length=z) (h:BH lo hi l.length λ a h=>K (((l.take h).drop a).map enc)):BZ z (l.map enc) lo hi K:=by
 refine ⟨by simp [hz],?_⟩;rw[List.length_map];obtain ⟨a,b,h1,h2,h3,h4⟩:=h;refine ⟨a,b,h1,h2,h3,?_⟩;show K _;rw[<-List.map_take,<-List.map_drop];exact h4
theorem OM {z k:Nat} {K:List (List AV)->Prop} (hz : ∀ x,(enc x).length=z) (hk:k<=l.length) (h:K ((l.take k).map enc)):BZ z (l.map enc) none (some (k:Int)) K :=
 RA hz (oJ (by omega) (by simpa using h))
theorem pM {z k:Nat} {K:List (List AV)->Prop} (hz : ∀ x,(enc x).length=z) (hk:k<=l.length) (h:K ((l.drop k).map enc)):BZ z (l.map enc) (some (k:Int)) none K :=
 RA hz (oK (by omega) (by simpa using h))
theorem AD {f:Nat} {vs:List AV} {K:AV->Prop} {r:AV} (h:Ev L f vs r) (hk:K r):AC L f vs K:=⟨r,h,hk⟩
theorem aU {f:Nat} {vs:List AV} {K:AV->Prop} {p:Prop} [Decidable p] (h:Ev L f vs (.bool (decide p))) (h1:p->K (.bool true)) (h2 : ¬ p->K (.bool false)):AC L f vs K:=by
 refine ⟨_,h,?_⟩;by_cases e:p
 ·rw[decide_eq_true e];exact h1 e
 ·rw[decide_eq_false e];exact h2 e
theorem AU {a r:AV} (h:a=r) (hc:A1 r):AL a r:=⟨h,hc⟩
theorem L6 {a r:Bool} (h:a=r):AL (.bool a) (.bool r):=⟨by rw[h],by simp [A1]⟩
theorem oP {p:Prop} [Decidable p] (h:p):AL (.bool true) (.bool (decide p)):=⟨by simp [h],by simp [A1]⟩
theorem aZ {p:Prop} [Decidable p] (h : ¬ p):AL (.bool false) (.bool (decide p)):=⟨by simp [h],by simp [A1]⟩
theorem CR {k:IntKind} {a b:Int} (h:a=b):AL (.int k a) (.int k b):=⟨by rw[h],by simp [A1]⟩
theorem RK (h : ∀ x,CM (enc x)) : ∀ l:List α,FO (l.map enc)
 | []=>by simp [FO]
 | x::r=>by rw[List.map_cons,FO];exact ⟨h x,RK h r⟩
end
theorem CW {α:Type} {L:Lib} {k:List It} {cd:BA} {tm:Tm} {M:Mem} {Q:Tm->Mem->Prop} (m:α->Nat) (P:α->Prop) (vs:α->Tm) (Ms:α->Mem) (ts:List Nat) (τ:List (Nat × Nat)) (a:α)
  (he:MQ τ tm M (vs a++w7 ts tm) (Ms a++M)) (hp:P a)
  (step : ∀ a,P a->(∀ a',m a'<m a->P a'->AA L (.lp cd::k) (vs a'++w7 ts tm) (Ms a'++M) Q)->AA L (.code cd :: .lp cd::k) (vs a++w7 ts tm) (Ms a++M) Q):AA L (.lp cd::k) tm M Q :=
 Q2 (α:=α) (λ x=>m x) (λ x=>P x) (λ x=>vs x) (λ x=>Ms x) ts τ a he hp λ a h ih=>step a h λ a' h1 h2=>ih a' h1 h2
theorem FZ {α β:Type} {L:Lib} {k:List It} {cd:BA} {tm:Tm} {M:Mem} {Q:Tm->Mem->Prop} (m:α->β->Nat) (P:α->β->Prop) (vs:α->β->Tm) (Ms:α->β->Mem) (ts:List Nat) (τ:List (Nat × Nat)) (a:α) (b:β)
  (he:MQ τ tm M (vs a b++w7 ts tm) (Ms a b++M)) (hp:P a b)
  (step : ∀ a b,P a b->(∀ a' b',m a' b'<m a b->P a' b'->AA L (.lp cd::k) (vs a' b'++w7 ts tm) (Ms a' b'++M) Q)->AA L (.code cd :: .lp cd::k) (vs a b++w7 ts tm) (Ms a b++M) Q):AA L (.lp cd::k) tm M Q :=
 Q2 (α:=α × β) (λ x=>m x.1 x.2) (λ x=>P x.1 x.2) (λ x=>vs x.1 x.2) (λ x=>Ms x.1 x.2) ts τ (a,b) he hp λ⟨a,b⟩ h ih=>step a b h λ a' b' h1 h2=>ih (a',b') h1 h2
theorem FN {α β γ:Type} {L:Lib} {k:List It} {cd:BA} {tm:Tm} {M:Mem} {Q:Tm->Mem->Prop} (m:α->β->γ->Nat) (P:α->β->γ->Prop) (vs:α->β->γ->Tm) (Ms:α->β->γ->Mem) (ts:List Nat) (τ:List (Nat × Nat)) (a:α) (b:β) (c:γ)
  (he:MQ τ tm M (vs a b c++w7 ts tm) (Ms a b c++M)) (hp:P a b c)
  (step : ∀ a b c,P a b c->(∀ a' b' c',m a' b' c'<m a b c->P a' b' c'->AA L (.lp cd::k) (vs a' b' c'++w7 ts tm) (Ms a' b' c'++M) Q)->AA L (.code cd :: .lp cd::k) (vs a b c++w7 ts tm) (Ms a b c++M) Q):AA L (.lp cd::k) tm M Q :=
 Q2 (α:=α × β × γ) (λ x=>m x.1 x.2.1 x.2.2) (λ x=>P x.1 x.2.1 x.2.2) (λ x=>vs x.1 x.2.1 x.2.2) (λ x=>Ms x.1 x.2.1 x.2.2) ts τ (a,b,c) he hp λ⟨a,b,c⟩ h ih=>step a b c h λ a' b' c' h1 h2=>ih (a',b',c') h1 h2
theorem aO {α β γ δ:Type} {L:Lib} {k:List It} {cd:BA} {tm:Tm} {M:Mem} {Q:Tm->Mem->Prop} (m:α->β->γ->δ->Nat) (P:α->β->γ->δ->Prop) (vs:α->β->γ->δ->Tm) (Ms:α->β->γ->δ->Mem) (ts:List Nat) (τ:List (Nat × Nat)) (a:α) (b:β) (c:γ) (d:δ)
  (he:MQ τ tm M (vs a b c d++w7 ts tm) (Ms a b c d++M)) (hp:P a b c d)
  (step : ∀ a b c d,P a b c d->(∀ a' b' c' d',m a' b' c' d'<m a b c d->P a' b' c' d'->AA L (.lp cd::k) (vs a' b' c' d'++w7 ts tm) (Ms a' b' c' d'++M) Q)->AA L (.code cd :: .lp cd::k) (vs a b c d++w7 ts tm) (Ms a b c d++M) Q):AA L (.lp cd::k) tm M Q :=
 Q2 (α:=α × β × γ × δ) (λ x=>m x.1 x.2.1 x.2.2.1 x.2.2.2) (λ x=>P x.1 x.2.1 x.2.2.1 x.2.2.2) (λ x=>vs x.1 x.2.1 x.2.2.1 x.2.2.2) (λ x=>Ms x.1 x.2.1 x.2.2.1 x.2.2.2) ts τ (a,b,c,d) he hp λ⟨a,b,c,d⟩ h ih=>step a b c d h λ a' b' c' d' h1 h2=>ih (a',b',c',d') h1 h2
theorem nJ {α β γ δ ε ζ:Type} {L:Lib} {k:List It} {cd:BA} {tm:Tm} {M:Mem} {Q:Tm->Mem->Prop} (m:α->β->γ->δ->ε->ζ->Nat) (P:α->β->γ->δ->ε->ζ->Prop) (vs:α->β->γ->δ->ε->ζ->Tm) (Ms:α->β->γ->δ->ε->ζ->Mem) (ts:List Nat) (τ:List (Nat × Nat)) (a:α) (b:β) (c:γ) (d:δ) (e:ε) (f:ζ)
  (he:MQ τ tm M (vs a b c d e f++w7 ts tm) (Ms a b c d e f++M)) (hp:P a b c d e f)
  (step : ∀ a b c d e f,P a b c d e f->(∀ a' b' c' d' e' f',m a' b' c' d' e' f'<m a b c d e f->P a' b' c' d' e' f'->AA L (.lp cd::k) (vs a' b' c' d' e' f'++w7 ts tm) (Ms a' b' c' d' e' f'++M) Q)->AA L (.code cd :: .lp cd::k) (vs a b c d e f++w7 ts tm) (Ms a b c d e f++M) Q):AA L (.lp cd::k) tm M Q :=
 Q2 (α:=α × β × γ × δ × ε × ζ) (λ x=>m x.1 x.2.1 x.2.2.1 x.2.2.2.1 x.2.2.2.2.1 x.2.2.2.2.2) (λ x=>P x.1 x.2.1 x.2.2.1 x.2.2.2.1 x.2.2.2.2.1 x.2.2.2.2.2) (λ x=>vs x.1 x.2.1 x.2.2.1 x.2.2.2.1 x.2.2.2.2.1 x.2.2.2.2.2) (λ x=>Ms x.1 x.2.1 x.2.2.1 x.2.2.2.1 x.2.2.2.2.1 x.2.2.2.2.2) ts τ (a,b,c,d,e,f) he hp λ⟨a,b,c,d,e,f⟩ h ih=>step a b c d e f h λ a' b' c' d' e' f' h1 h2=>ih (a',b',c',d',e',f') h1 h2
theorem AE {L:Lib} {Q:Tm->Mem->Prop} {c:BA} {k:List It} {tm:Tm} {M:Mem} (h:fT (qa 0 tm) λ tm=>fM (jt M) λ M=>XK L Q 500 (.code c::k) tm M):AA L (.code c::k) tm M Q:=by
 rw[R1,IV]at h;exact nI (bT h)
end Go.c4

namespace Go.c4
variable {L:Lib}
def BV (N:Nat):AM->Bool
 | .t n=>Nat.blt n N
 | .c _=>true
def SG (N:Nat):DG->Bool
 | .b7 x=>BV N x
 | .y6 _ _=>true
 | .pick c a b=>BV N c&&(BV N a&&BV N b)
 | .bin _ x y=>BV N x&&BV N y
 | .beq _ x y=>BV N x&&BV N y
 | .un _ x=>BV N x
 | .conv _ x=>BV N x
 | .box _ x=>BV N x
 | .alloc _ _=>true
 | .build _ ps=>ps.all λ p=>BV N p.2.2
 | .e8 _ _ ps=>ps.all (BV N)
 | .a6 x _=>BV N x
 | .iq x _ _ _=>BV N x
 | .a8 _ _ x i=>BV N x&&BV N i
 | .idx _ _ _ x i=>BV N x&&BV N i
 | .ld _ _ x=>BV N x
 | .st _ x v=>BV N x&&BV N v
 | .mk _ _ _ _ l c=>BV N l&&BV N c
 | .bz _ x lo hi=>BV N x&&((lo.all (BV N))&&(hi.all (BV N)))
 | .ext x _=>BV N x
 | .len x=>BV N x
 | .mm _ xs=>xs.all (BV N)
 | .app _ _ _ x y=>BV N x&&BV N y
 | .jg _ x y=>BV N x&&BV N y
 | .call _ xs=>xs.all (BV N)
 | .g6 _ xs=>xs.all (BV N)
 | .mc _ x=>BV N x
 | .cp _ x=>BV N x
 | .bad=>true
 | .mw x=>BV N x
 | .da x=>BV N x
 | .je _ _ _ x y=>BV N x&&BV N y
 | .jd _ _ _ x y=>BV N x&&BV N y
 | .ju _ _ xs=>xs.all (BV N)
 | .n9 x xs=>BV N x&&xs.all (BV N)
 | .k9 _ xs=>xs.all (BV N)
 | .o5 _ _ xs=>xs.all (BV N)
 | .w9 _ _ xs=>xs.all (BV N)
 | .mf _ _ x y=>BV N x&&BV N y
 | .jc _ _ x v=>BV N x&&BV N v
 | .ax _ _ _ x y=>BV N x&&BV N y
def RD (N:Nat) (a:AI):Bool:=(a.dst.all λ d=>Nat.blt d N)&&((a.guard.all λ g=>Nat.blt g.1 N)&&SG N a.op)
def HA (N:Nat):BA->Bool
 | .skip=>true
 | .ops l _=>l.all (RD N)
 | .dr c ts _=>HA N c&&ts.all λ t=>Nat.blt t N
 | .scope c=>HA N c
 | .seq a b=>HA N a&&HA N b
 | .cond c a b=>BV N c&&(HA N a&&HA N b)
 | .block _ c=>HA N c
 | .loop c=>HA N c
 | .exit _=>true
 | .ret=>true
def N1 (N:Nat):It->Bool
 | .code c=>HA N c
 | .im ts _=>ts.all λ t=>Nat.blt t N
 | .c9 _=>true
 | .lp c=>HA N c
structure Gh (N:Nat) (G T T':Tm):Prop where
 lo : ∀ j,j<N->e9 T' j=e9 T j
 hi : ∀ j,N<=j->e9 T' j=e9 G j
variable {N:Nat} {G:Tm}
theorem OQ {a b:Nat}:Nat.blt a b=true↔a<b:=by simp [Nat.blt];omega
theorem Gh.ev {st:St} {T':Tm} {o:AG} (h:Gh N G st.tm T') {x:AM} (hx:BV N x=true):St.ev ⟨T',o⟩ x=st.ev x:=by
 cases x with
 | t n=>exact h.lo n (OQ.1 hx)
 | c v=>rfl
theorem O9 {f g:AM->AV} {xs:List AM} (h : ∀ x,BV N x=true->f x=g x) (hx:xs.all (BV N)=true):xs.map f=xs.map g:=by
 apply List.map_congr_left;intro x hm;exact h x (List.all_eq_true.1 hx x hm)
theorem vR {C:Cl} {b9:List Nat} {ρ ρ':AM->AV} {own:AG} (h : ∀ x,BV N x=true->ρ' x=ρ x) : ∀ (op:DG),SG N op=true->c8 C b9 ρ' own op=c8 C b9 ρ own op:=by
 intro op j8;cases op;case build zero ps =>
  have:(ps.map λ p=>(p.1,p.2.1,ρ' p.2.2))=ps.map λ p=>(p.1,p.2.1,ρ p.2.2):=by
   apply List.map_congr_left;intro p hm;rw[h _ (List.all_eq_true.1 j8 p hm)]
  simp only[c8,this]
 case e8 s a5 ps =>
  have:ps.mapM (λ x=>cellsOf (ρ' x))=ps.mapM (λ x=>cellsOf (ρ x)):=by
   have mq:ps.all (BV N)=true:=j8;clear j8;induction ps with
   | nil=>rfl
   | cons p r ih =>
    simp only[List.all_cons,Bool.and_eq_true]at mq;simp only[List.mapM_cons,h _ mq.1,ih mq.2]
  simp only[c8,this]
 case mm m xs=>simp only[c8,O9 h j8]
 case call f xs=>simp only[c8,O9 h j8]
 case g6 f xs=>simp only[c8,O9 h j8]
 case ju p f xs =>
  have:xs.mapM (λ x=>F9 (ρ' x))=xs.mapM (λ x=>F9 (ρ x)):=by
   have mq:xs.all (BV N)=true:=j8;clear j8;induction xs with
   | nil=>rfl
   | cons p r ih =>
    simp only[List.all_cons,Bool.and_eq_true]at mq;simp only[List.mapM_cons,h _ mq.1,ih mq.2]
  simp only[c8,this]
 case k9 f xs=>simp only[c8,O9 h j8]
 case o5 s f xs=>simp only[c8,O9 h j8]
 case w9 s f xs=>simp only[c8,O9 h j8]
 case n9 x xs =>
  simp only[SG,Bool.and_eq_true]at j8;simp only[c8,O9 h j8.2,h _ j8.1]
 case bz a5 x lo hi =>
  simp only[SG,Bool.and_eq_true]at j8;obtain ⟨h1,h2,h3⟩:=j8;cases lo<;>cases hi<;>simp only[Option.all_some,Option.all_none]at h2 h3<;>simp only[c8,h _ h1,h _,h2,h3]
 all_goals (simp only[SG,Bool.and_eq_true]at j8;simp only[c8,h _,j8])
theorem Gh.dst {T T':Tm} (h:Gh N G T T') {d:Nat} (hd:d<N) (v:AV):Gh N G (eo T d v) (eo T' d v):=by
 constructor
 ·intro j hj
  rw[S2,S2,h.lo j hj]
 ·intro j hj
  rw[S2,h.hi j hj,if_neg (by omega)]
theorem Gh.ji {T T':Tm} {o:AG} (h:Gh N G T T') {d:Option Nat} (hd:(d.all λ d=>Nat.blt d N)=true) (v:AV):((⟨T',o⟩:St).dst d v).own=((⟨T,o⟩:St).dst d v).own/\Gh N G ((⟨T,o⟩:St).dst d v).tm ((⟨T',o⟩:St).dst d v).tm:=by
 cases d with
 | none=>exact ⟨rfl,h⟩
 | some d=>exact ⟨rfl,h.dst (OQ.1 hd) v⟩
theorem Nl {C:Cl} {a:AI} (ha:RD N a=true) {T T':Tm} {o:AG} (h:Gh N G T T') {s':St} (hs:CZ C a ⟨T',o⟩=some s') : ∃ s,CZ C a ⟨T,o⟩=some s/\s'.own=s.own/\Gh N G s.tm s'.tm:=by
 simp only[RD,Bool.and_eq_true]at ha;obtain ⟨h1,h2,h3⟩:=ha;have hg:EZ ⟨T',o⟩ a.guard=EZ ⟨T,o⟩ a.guard:=by
  cases Qj:a.guard with
  | none=>rfl
  | some g =>
   rw[Qj]at h2;simp only[EZ,h.lo _ (OQ.1 h2)]
 have he:=vR (C:=C) (b9:=a.b9) (own:=o) (ρ:=St.ev ⟨T,o⟩) (ρ':=St.ev ⟨T',o⟩) (λ x hx=>Gh.ev (st:=⟨T,o⟩) h hx) a.op h3;unfold CZ at hs ⊢;rw[hg,he]at hs;cases vz:EZ ⟨T,o⟩ a.guard with
 | none=>rw[vz]at hs;cases hs
 | some b =>
  rw[vz]at hs;cases b with
  | false =>
   simp only[Option.some.injEq]at hs ⊢;subst hs;exact ⟨_,rfl,h.ji h1 _⟩
  | true =>
   simp only at hs ⊢;cases Gj:c8 C a.b9 (St.ev ⟨T,o⟩) o a.op with
   | none=>rw[Gj]at hs;cases hs
   | some e =>
    rw[Gj]at hs;simp only[Option.map_some,Option.some.injEq]at hs ⊢;subst hs;refine ⟨_,rfl,?_⟩;cases e with
    | val v=>exact h.ji h1 v
    | new s b v=>exact ⟨rfl,(h.ji (o:=o) h1 _).2⟩
    | rh s b v=>exact ⟨rfl,(h.ji (o:=o) h1 _).2⟩
    | y9 v o'=>exact ⟨rfl,(h.ji (o:=o) h1 _).2⟩
    | m7 s x=>exact ⟨rfl,(h.ji (o:=o) h1 _).2⟩
    | na s x v=>exact ⟨rfl,(h.ji (o:=o) h1 _).2⟩
theorem mJ {C:Cl} : ∀ {l:List AI},l.all (RD N)=true -> ∀ {T T':Tm} {o:AG},Gh N G T T' -> ∀ {s':St},C3 C l ⟨T',o⟩=some s' -> ∃ s,C3 C l ⟨T,o⟩=some s/\s'.own=s.own/\Gh N G s.tm s'.tm
 | [],_,T,T',o,h,s',hs=>by
  simp only[C3,Option.some.injEq]at hs;subst hs;exact ⟨_,rfl,rfl,h⟩
 | a::l,ha,T,T',o,h,s',hs=>by
  simp only[List.all_cons,Bool.and_eq_true]at ha;simp only[C3]at hs;cases h1:CZ C a ⟨T',o⟩ with
  | none=>rw[h1]at hs;cases hs
  | some s1 =>
   rw[h1]at hs;obtain ⟨s2,e1,e2,e3⟩:=Nl ha.1 h h1;obtain ⟨T1,o1⟩:=s1;obtain ⟨T2,o2⟩:=s2;simp only at e2 e3;subst e2;obtain ⟨s3,f1,f2,f3⟩:=mJ ha.2 e3 hs;exact ⟨s3,by simp only[C3,e1,f1],f2,f3⟩
theorem RY {id:Nat} : ∀ {k k':List It},k.all (N1 N)=true->EU id k=some k'->k'.all (N1 N)=true
 | [],_,_,h=>by simp [EU]at h
 | it::k,k',hk,h=>by
  simp only[List.all_cons,Bool.and_eq_true]at hk;cases it with
  | c9 i =>
   simp only[EU]at h;split at h
   ·cases h;exact hk.2
   ·exact RY hk.2 h
  | code c=>simp only[EU]at h;exact RY hk.2 h
  | im a b=>simp only[EU]at h;exact RY hk.2 h
  | lp c=>simp only[EU]at h;exact RY hk.2 h
theorem HL {C:Cl} : ∀ (n:Nat) {k:List It},k.all (N1 N)=true -> ∀ {T T':Tm} {o:AG},Gh N G T T' -> ∀ {s':St},run C n k ⟨T',o⟩=some s' -> ∃ s,run C n k ⟨T,o⟩=some s/\s'.own=s.own/\Gh N G s.tm s'.tm
 | 0,k,_,T,T',o,_,s',hs=>by simp [run]at hs
 | n+1,[],_,T,T',o,h,s',hs=>by
  simp only[run,Option.some.injEq]at hs ⊢;subst hs;exact ⟨_,rfl,rfl,h⟩
 | n+1,.c9 _::k,hk,T,T',o,h,s',hs=>by
  simp only[List.all_cons,Bool.and_eq_true]at hk;simp only[run]at hs ⊢;exact HL n hk.2 h hs
 | n+1,.im ts ss::k,hk,T,T',o,h,s',hs=>by
  simp only[List.all_cons,Bool.and_eq_true]at hk;simp only[run]at hs ⊢;refine HL n hk.2 ⟨λ j hj => ?_,λ j hj => ?_⟩ hs
  ·rw[QY,QY,h.lo j hj]
  ·rw[QY,h.hi j hj,if_neg]
   intro hc;have:=List.all_eq_true.1 hk.1 j (by simpa using hc)
   have:=OQ.1 this
   omega
 | n+1,.lp c::k,hk,T,T',o,h,s',hs=>by
  simp only[run]at hs ⊢;have dh:=hk;simp only[List.all_cons,Bool.and_eq_true]at hk;exact HL n (by simp only[List.all_cons,Bool.and_eq_true];exact ⟨hk.1,hk.1,hk.2⟩) h hs
 | n+1,.code c::k,hk,T,T',o,h,s',hs=>by
  simp only[List.all_cons,Bool.and_eq_true]at hk;obtain ⟨hc,hk⟩:=hk;cases c with
  | skip=>simp only[run]at hs ⊢;exact HL n hk h hs
  | ops l d =>
   simp only[run]at hs ⊢;cases h1:C3 C l ⟨T',o⟩ with
   | none=>rw[h1]at hs;cases hs
   | some s1 =>
    rw[h1]at hs;obtain ⟨s2,e1,e2,e3⟩:=mJ (show l.all (RD N)=true from hc) h h1;obtain ⟨T1,o1⟩:=s1;obtain ⟨T2,o2⟩:=s2;simp only at e2 e3;subst e2;rw[e1];exact HL n hk e3 hs
  | dr c ts ss =>
   simp only[run]at hs ⊢;simp only[N1,HA,Bool.and_eq_true]at hc;exact HL n (by simp only[List.all_cons,Bool.and_eq_true];exact ⟨hc.1,hc.2,hk⟩) h hs
  | scope c =>
   simp only[run]at hs ⊢;exact HL n (by simp only[List.all_cons,Bool.and_eq_true];exact ⟨hc,hk⟩) h hs
  | seq a b =>
   simp only[run]at hs ⊢;simp only[N1,HA,Bool.and_eq_true]at hc;exact HL n (by simp only[List.all_cons,Bool.and_eq_true];exact ⟨hc.1,hc.2,hk⟩) h hs
  | cond x a b =>
   simp only[N1,HA,Bool.and_eq_true]at hc;simp only[run,Gh.ev (st:=⟨T,o⟩) h hc.1]at hs ⊢;cases hx:St.ev ⟨T,o⟩ x<;>rw[hx]at hs<;>try (simp at hs;done)
   rename_i q;cases q
   ·exact HL n (by simp only[List.all_cons,Bool.and_eq_true];exact ⟨hc.2.2,hk⟩) h hs
   ·exact HL n (by simp only[List.all_cons,Bool.and_eq_true];exact ⟨hc.2.1,hk⟩) h hs
  | block id c =>
   simp only[run]at hs ⊢;exact HL n (by simp only[List.all_cons,Bool.and_eq_true];exact ⟨hc,rfl,hk⟩) h hs
  | loop c =>
   simp only[run]at hs ⊢;exact HL n (by simp only[List.all_cons,Bool.and_eq_true];exact ⟨hc,hc,hk⟩) h hs
  | exit id =>
   simp only[run]at hs ⊢;cases he:EU id k with
   | none=>rw[he]at hs;cases hs
   | some k' =>
    rw[he]at hs;exact HL n (RY hk he) h hs
  | ret =>
   simp only[run,Option.some.injEq]at hs ⊢;subst hs;exact ⟨_,rfl,rfl,h⟩
def FL (N:Nat):Tm->Tm
 | []=>[]
 | (i,v)::r=>(N+i,v)::FL N r
def gh (N:Nat):Tm->Tm
 | []=>[]
 | (i,v)::r=>bif Nat.ble N i then (Nat.sub i N,v)::gh N r else gh N r
theorem aJ (N j:Nat) : ∀ T:Tm,e9 (FL N T) (N+j)=e9 T j
 | []=>rfl
 | (i,v)::r=>by
  have ih:=aJ N j r;simp only[FL,e9,ih];by_cases h:j=i
  ·simp [h]
  ·rw[if_neg h,if_neg (by omega)]
theorem aK {N j:Nat} (hj:j<N) : ∀ T:Tm,e9 (FL N T) j = .any
 | []=>rfl
 | (i,v)::r=>by
  simp only[FL,e9,aK hj r];rw[if_neg (by omega)]
theorem aH (N j:Nat) : ∀ T:Tm,e9 (gh N T) j=e9 T (N+j)
 | []=>rfl
 | (i,v)::r=>by
  have ih:=aH N j r;simp only[gh];cases h:Nat.ble N i
  ·have h1 : ¬ N<=i:=λ e=>by rw[Nat.ble_eq_true_of_le e]at h;cases h
   simp only[cond,e9,ih];rw[if_neg (by omega)]
  ·have h1:=Nat.le_of_ble_eq_true h
   simp only[cond,e9,ih];by_cases h2:j=i-N
   ·rw[if_pos (show j=Nat.sub i N from h2),if_pos (by omega)]
   ·rw[if_neg (show ¬ j=Nat.sub i N from h2),if_neg (by omega)]
def JM (f:AV->AV):Tm->Tm
 | []=>[]
 | (i,v)::r=>(i,f v)::JM f r
theorem II {f:AV->AV} (hf:f .any = .any) (j:Nat) : ∀ T:Tm,e9 (JM f T) j=f (e9 T j)
 | []=>hf.symm
 | (i,v)::r=>by
  simp only[JM,e9,II hf j r];by_cases h:j=i<;>simp [h]
theorem YL (f:AV->AV) : ∀ (i:Nat) (vs:List AV),CB i (vs.map f)=JM f (CB i vs)
 | _,[]=>rfl
 | i,v::r=>by simp only[List.map_cons,CB,JM,YL f (i+1) r]
theorem S0 (j:Nat) (b:Tm) : ∀ a:Tm,((a.any λ p=>p.1 == j)=true/\e9 (a++b) j=e9 a j)\/((a.any λ p=>p.1 == j)=false/\e9 (a++b) j=e9 b j)
 | []=>Or.inr ⟨rfl,rfl⟩
 | (i,v)::r=>by
  by_cases h:j=i
  ·subst h
   exact Or.inl (by simp [e9])
  ·have h' : ¬ i=j:=λ e=>h e.symm
   rcases S0 j b r with ⟨h1,h2⟩|⟨h1,h2⟩
   ·exact Or.inl ⟨by rw[List.any_cons,h1,Bool.or_true],by simp only[List.cons_append,e9,if_neg h,h2]⟩
   ·exact Or.inr ⟨by rw[List.any_cons,h1,Bool.or_false];simpa using h',by simp only[List.cons_append,e9,if_neg h,h2]⟩
theorem YK (j:Nat) : ∀ (i:Nat) (vs:List AV),((CB i vs).any λ p=>p.1 == j)=true->j<i+vs.length
 | _,[],h=>by simp [CB]at h
 | i,v::r,h=>by
  simp only[CB,List.any_cons,Bool.or_eq_true,beq_iff_eq]at h;rcases h with h|h
  ·simp;omega
  ·have:=YK j (i+1) r h
   simp;omega
theorem aI (j:Nat) : ∀ (i:Nat) (vs:List AV),((CB i vs).any λ p=>p.1 == j)=false->e9 (CB i vs) j = .any
 | _,[],_=>rfl
 | i,v::r,h=>by
  simp only[CB,List.any_cons,Bool.or_eq_false_iff,beq_eq_false_iff_ne]at h;simp only[CB,e9];rw[if_neg λ e=>h.1 e.symm,aI j (i+1) r h.2]
theorem I2 (σ:E4):A8 σ .any = .any:=rfl
def N5 (tm:Tm):List H1->Option (List AV)
 | []=>some []
 | .tmp t::r=>match HX (tg tm t),N5 tm r with
  | some v,some vs=>some (v::vs)
  | _,_=>none
 | .cell _ _ _::_=>none
def SN (N:Nat):List H1->Bool
 | []=>true
 | .tmp t::r=>Nat.blt t N&&SN N r
 | .cell _ _ _::_=>false
def bN (N:Nat) (fn:AFn) (tm:Tm) (K:AV->Mem->Prop) (v9:Tm) (M':Mem):Prop:=gh N v9=tm /\ ∃ rs,N5 v9 fn.res=some rs/\K (G1 rs) M'
theorem Lj {σ:E4} {v u:AV} (h:HX v=some u):u=v/\A8 σ v=BM σ v/\HX (A8 σ v)=some (A8 σ v):=by
 cases v<;>simp [HX]at h<;>subst h<;>exact ⟨rfl,rfl,rfl⟩
theorem ZM {σ:E4} {v9:Tm} {M:Mem} {s s':St} (hr:RX σ v9 M s') (iv : ∀ j,j<N->e9 s'.tm j=e9 s.tm j) : ∀ {res:List H1} {rs:List AV},SN N res=true->N5 v9 res=some rs->res.mapM (EN s)=some (rs.map (BM σ)) /\ ∀ v∈rs,A8 σ v=BM σ v
 | [],rs,_,h=>by
  simp only[N5,Option.some.injEq]at h;subst h;exact ⟨rfl,by simp⟩
 | .cell _ _ _::_,_,_,h=>by simp [N5]at h
 | .tmp t::r,rs,hl,h=>by
  simp only[SN,Bool.and_eq_true]at hl;simp only[N5]at h;cases h1:HX (tg v9 t) with
  | none=>rw[h1]at h;simp at h
  | some v =>
   cases h2:N5 v9 r with
   | none=>rw[h1,h2]at h;simp at h
   | some vs =>
    rw[h1,h2]at h;simp only[Option.some.injEq]at h;subst h;obtain ⟨i1,i2⟩:=ZM hr iv hl.2 h2;obtain ⟨rfl,j2,j3⟩:=Lj (σ:=σ) h1;have:e9 s.tm t=A8 σ (tg v9 t):=by
     rcases hr.tm t with e|e
     ·rw[e]at h1;cases h1
     ·rw[<-iv t (OQ.1 hl.1),e]
    refine ⟨?_,?_⟩
    ·rw[j2]at j3 this
     simp only[List.mapM_cons,EN,this,j3,i1,List.map_cons];rfl
    ·intro v hv
     simp only[List.mem_cons]at hv;rcases hv with rfl|hv
     ·exact j2
     ·exact i2 v hv
theorem kS {σ:E4} {rs:List AV} (h : ∀ v∈rs,A8 σ v=BM σ v):G1 (rs.map (BM σ))=A8 σ (G1 rs):=by
 match rs,h with
 | [],_=>rfl
 | [v],h=>exact (h v (by simp)).symm
 | _::_::_,_=>rfl
theorem G7 {f:Nat} {fn:AFn} {vs:List AV} {tm:Tm} {M:Mem} {K:AV->Mem->Prop} (N:Nat) (hL:L f=some fn) (hp:Nat.beq vs.length fn.v8=true) (hN:(Nat.ble fn.v8 N&&(HA N fn.body&&SN N fn.res))=true)
  (h:AA L [.code fn.body] (CB 0 vs++FL N tm) M (bN N fn tm K)):A4 L f vs tm M K:=by
 intro σ own hs;simp only[Bool.and_eq_true]at hN;obtain ⟨n1,n2,n3⟩:=hN;have n1:=Nat.le_of_ble_eq_true n1;have hp:vs.length=fn.v8:=Nat.eq_of_beq_eq_true hp;have Ef:RX σ (CB 0 vs++FL N tm) M ⟨JM (A8 σ) (CB 0 vs++FL N tm),own⟩:=⟨λ j=>Or.inr (by rw[IH];exact II (I2 σ) j _),hs⟩;obtain ⟨n,c,s',hr,σ',v9,M',hR,hg,rs,zu,hk⟩:=h σ _ Ef;have Di:Gh N (JM (A8 σ) (FL N tm)) (CB 0 (vs.map (A8 σ))) (JM (A8 σ) (CB 0 vs++FL N tm)):=by
  constructor
  ·intro j hj
   rw[YL,II (I2 σ),II (I2 σ)];rcases S0 j (FL N tm) (CB 0 vs) with ⟨_,e⟩|⟨hn,e⟩
   ·rw[e]
   ·rw[e,aK hj,aI j 0 vs hn]
  ·intro j hj
   rw[II (I2 σ),II (I2 σ)];rcases S0 j (FL N tm) (CB 0 vs) with ⟨hn,e⟩|⟨_,e⟩
   ·have:=YK j 0 vs hn
    omega
   ·rw[e]
 obtain ⟨s,r1,r2,r3⟩:=HL n (by simp [N1,n2]) Di hr;obtain ⟨i1,i2⟩:=ZM (s:=s) hR r3.lo n3 zu;refine ⟨G1 rs,s.own,σ',M',FP.intro hL (by simpa using hp) ⟨n,c,s,r1,?_,rfl⟩,?_,?_,hk⟩
 ·rw[i1,Option.map_some,kS i2]
 ·rw[<-r2];exact hR.sat
 ·intro j
  have e1:tg tm j=tg v9 (N+j):=by rw[IH,IH,<-hg,aH]
  rcases hR.tm (N+j) with e|e
  ·rw[e1,e];rfl
  ·rw[e1,<-e,r3.hi (N+j) (by omega),II (I2 σ),aJ,<-IH,e1]
theorem P4 {α:Type} {enc:α->List AV} {l:List α} {i:Nat} {vs:List AV} {K:List (List AV)->Prop} (n:Nat) (e:α) (hn:i=n) (he:vs=enc e) (hz : ∀ x,(enc x).length=vs.length) (hi:n<l.length) (h:K ((l.set n e).map enc)):A6 (l.map enc) i 0 vs K:=by
 subst hn;exact pN e he hz hi h
theorem GF {x:Int} {len:Nat} {K:Nat->Nat->Prop} (h:Nat) (hx:x=h) (hl:h<=len) (hk:K 0 h):BH none (some x) len K:=⟨0,h,rfl,⟨by omega,by omega,by omega⟩,by omega,hk⟩
end Go.c4

namespace Go.c4
@[irreducible] def D7 (a b : Nat) : Nat := (a + 18446744073709551616 - b) % 18446744073709551616
theorem PX (a b:Nat):D7 a b=(a+18446744073709551616-b)%18446744073709551616:=by unfold D7;rfl
def val:List Nat->Nat
 | []=>0
 | d::l=>d+4294967296*val l
def AX (l:List Nat):Prop := ∀ d∈l,d<4294967296
def dg (n:Nat):List Nat:=if h:n=0 then [] else n%4294967296::dg (n/4294967296)
termination_by n
decreasing_by omega
theorem EH:dg 0=[]:=by rw[dg];simp
theorem HT {n:Nat} (h:n≠0):dg n=n%4294967296::dg (n/4294967296):=by rw[dg];simp [h]
theorem HP:val []=0:=rfl
theorem NJ (d:Nat) (l:List Nat):val (d::l)=d+4294967296*val l:=rfl
theorem BK (n:Nat):val (dg n)=n:=by
 induction n using Nat.strongRecOn with
 | ind n ih =>
  by_cases h:n=0
  ·subst h;rw[EH];rfl
  ·rw[HT h,NJ,ih _ (by omega)]
   omega
theorem DF (n:Nat):AX (dg n):=by
 induction n using Nat.strongRecOn with
 | ind n ih =>
  by_cases h:n=0
  ·subst h;rw[EH];intro d hd;cases hd
  ·rw[HT h]
   intro d hd;rcases List.mem_cons.1 hd with rfl|hd
   ·omega
   ·exact ih _ (by omega) d hd
theorem AX.tail {d:Nat} {l:List Nat} (h:AX (d::l)):AX l:=λ x hx=>h x (List.mem_cons_of_mem _ hx)
theorem AX.head {d:Nat} {l:List Nat} (h:AX (d::l)):d<4294967296:=h d List.mem_cons_self
theorem AX.at {l:List Nat} (h:AX l) {i d:Nat} (hd:l[i]? = some d):d<4294967296:=h d (zM hd)
theorem AX.take {l:List Nat} (h:AX l) (n:Nat):AX (l.take n):=λ x hx=>h x (List.mem_of_mem_take hx)
theorem AX.drop {l:List Nat} (h:AX l) (n:Nat):AX (l.drop n):=λ x hx=>h x (List.mem_of_mem_drop hx)
theorem QA:AX []:=λ_ h=>by cases h
theorem AX.append {a b:List Nat} (h:AX a) (h':AX b):AX (a++b):=λ x hx=>(List.mem_append.1 hx).elim (h x) (h' x)
theorem GL {d:Nat} (h:d<4294967296):AX [d]:=λ x hx=>by simp at hx;omega
theorem AX.set {l:List Nat} (h:AX l) (i:Nat) {d:Nat} (hd:d<4294967296):AX (l.set i d):=λ x hx=>by
 rcases List.mem_or_eq_of_mem_set hx with h1|h1
 ·exact h x h1
 ·omega
theorem HU (n:Nat):AX (List.replicate n 0):=λ x hx=>by rw[(List.mem_replicate.1 hx).2];omega
theorem Q0 (a b:List Nat):val (a++b)=val a+4294967296^a.length*val b:=by
 induction a with
 | nil=>simp [val]
 | cons d l ih=>rw[List.cons_append,NJ,NJ,ih,List.length_cons,Nat.pow_succ];grind
theorem L1 (l:List Nat) (v:Nat):val (l++[v])=val l+4294967296^l.length*v:=by
 rw[Q0];simp [val]
theorem EJ {l:List Nat} (h:AX l):val l<4294967296^l.length:=by
 induction l with
 | nil=>simp [val]
 | cons d l ih =>
  have h1:=ih h.tail;have h2:=h.head;rw[NJ,List.length_cons,Nat.pow_succ];omega
theorem DJ {l:List Nat} {i v:Nat} (h:l[i]? = some v):val (l.take (i+1))=val (l.take i)+4294967296^i*v:=by
 have hi:=(zS h).1;rw[List.take_add_one,h,Option.toList_some,L1,List.length_take,Nat.min_eq_left (by omega)]
theorem IJ (l:List Nat) (i:Nat) (h:i<=l.length):val l=val (l.take i)+4294967296^i*val (l.drop i):=by
 have:=Q0 (l.take i) (l.drop i)
 rw[List.take_append_drop,List.length_take,Nat.min_eq_left h]at this;exact this
theorem V1 (n:Nat):val (List.replicate n 0)=0:=by
 induction n with
 | zero=>rfl
 | succ n ih=>rw[List.replicate_succ,NJ,ih]
theorem tG {l:List Nat} (h:AX l) (ht:l=[] \/ ∃ d,l[l.length-1]? = some d/\d≠0):dg (val l)=l:=by
 induction l with
 | nil=>exact EH
 | cons d l ih =>
  have h1:=h.head;by_cases hl:l=[]
  ·subst hl
   rcases ht with ht|⟨x,hx,qu⟩
   ·cases ht
   ·simp at hx
    subst hx;rw[NJ,HP,HT (by omega),show (d+4294967296*0)/4294967296=0 by omega,EH,show (d+4294967296*0)%4294967296=d by omega]
  ·have iw : ∃ x,l[l.length-1]? = some x/\x≠0:=by
    rcases ht with ht|⟨x,hx,qu⟩
    ·cases ht
    ·refine ⟨x,?_,qu⟩
     have:l.length≠0:=λ e=>hl (List.eq_nil_of_length_eq_zero e)
     rw[List.length_cons,show l.length+1-1=(l.length-1)+1 by omega,List.getElem?_cons_succ]at hx;exact hx
   have Aj:=ih h.tail (Or.inr iw);have zl:val l≠0:=by
    intro e;rw[e,EH]at Aj;exact hl Aj.symm
   rw[NJ,HT (by omega),show (d+4294967296*val l)/4294967296=val l by omega,Aj,show (d+4294967296*val l)%4294967296=d by omega]
theorem FG {l:List Nat} (h:AX l) {n:Nat} (hn:n<=l.length) (hz : ∀ i,n<=i->i<l.length->l[i]? = some 0) (ht:n=0 \/ ∃ d,l[n-1]? = some d/\d≠0):l.take n=dg (val l):=by
 have hv:val l=val (l.take n):=by
  have h0:l.drop n=List.replicate (l.length-n) 0:=by
   apply List.ext_getElem?;intro i;rw[List.getElem?_drop,List.getElem?_replicate];by_cases hi:n+i<l.length
   ·rw[hz (n+i) (by omega) hi,if_pos (by omega)]
   ·rw[List.getElem?_eq_none (by omega),if_neg (by omega)]
  rw[IJ l n hn,h0,V1];omega
 rw[hv];refine (tG (h.take n) ?_).symm;rcases ht with rfl|⟨d,hd,mi⟩
 ·exact Or.inl (by simp)
 ·have l6:=(zS hd).1
  by_cases rz:n=0
  ·subst rz;exact Or.inl (by simp)
  ·refine Or.inr ⟨d,?_,mi⟩
   rw[List.length_take,Nat.min_eq_left hn,List.getElem?_take,if_pos (by omega)];exact hd
theorem MF {n k:Nat}:(dg n).length<=k↔n<4294967296^k:=by
 induction k generalizing n with
 | zero =>
  by_cases h:n=0
  ·subst h;simp [EH]
  ·rw[HT h];simp;omega
 | succ k ih =>
  by_cases h:n=0
  ·subst h;simp [EH];exact Nat.pos_of_ne_zero (by simp)
  ·rw[HT h,List.length_cons,Nat.succ_le_succ_iff,ih,Nat.pow_succ]
   rw[Nat.div_lt_iff_lt_mul (by omega)]
theorem ED {l:List Nat} (h:AX l):(dg (val l)).length<=l.length:=MF.2 (EJ h)
theorem W3 {n:Nat} (h:n≠0) : ∃ d,(dg n)[(dg n).length-1]? = some d/\d≠0:=by
 induction n using Nat.strongRecOn with
 | ind n ih =>
  rw[HT h];by_cases h2:n/4294967296=0
  ·rw[h2,EH]
   exact ⟨n%4294967296,by simp,by omega⟩
  ·obtain ⟨d,hd,mi⟩:=ih _ (by omega) h2
   refine ⟨d,?_,mi⟩;have hl:(dg (n/4294967296)).length≠0:=λ e=>by rw[List.eq_nil_of_length_eq_zero e]at hd;simp at hd
   rw[List.length_cons,show (dg (n/4294967296)).length+1-1=(dg (n/4294967296)).length-1+1 by omega,List.getElem?_cons_succ];exact hd
theorem W1 {n:Nat}:dg n=[]↔n=0:=by
 constructor
 ·intro h
  by_cases h0:n=0
  ·exact h0
  ·rw[HT h0]at h;cases h
 ·rintro rfl;exact EH
theorem RP {n:Nat} (h:n≠0):1<=(dg n).length:=by rw[HT h];simp
theorem Mc {o:List Nat} {i v:Nat} (h:i<o.length):(o.set i v).take (i+1)=o.take i++[v]:=by
 rw[List.take_add_one,List.getElem?_set_self h,List.take_set_of_le (Nat.le_refl i)];rfl
theorem E9 {o:List Nat} {i v:Nat} (h:i<o.length):val ((o.set i v).take (i+1))=val (o.take i)+4294967296^i*v:=by
 rw[Mc h,L1,List.length_take,Nat.min_eq_left (by omega)]
theorem MW (V p t:Nat):V+p*(t%4294967296)+p*4294967296*(t/4294967296)=V+p*t:=by
 have h:=Nat.mod_add_div t 4294967296;have:p*(t%4294967296)+p*4294967296*(t/4294967296)=p*t:=by
  rw[Nat.mul_assoc,<-Nat.mul_add,h]
 omega
theorem CU {l:List Nat} {n:Nat} (h:l.length<=n):val (l.take n)=val l:=by rw[List.take_of_length_le h]
theorem kL (i:Nat):1<=4294967296^i:=Nat.pos_of_ne_zero (by simp)
theorem GE {l:List Nat} {i d:Nat} (h:l[i]? = some d):val (l.drop i)=d+4294967296*val (l.drop (i+1)):=by
 obtain ⟨hi,rfl⟩:=zS h;rw[List.drop_eq_getElem_cons hi,NJ]
theorem VX {a b:List Nat} (ha:AX a) (hb:AX b) (hl:a.length=b.length) {i:Nat} {x y:Nat} (hx:a[i]? = some x) (hy:b[i]? = some y) (he:a.drop (i+1)=b.drop (i+1)) (h:x<y):val a<val b:=by
 have Tv:=(zS hx).1;have Tw:=(zS hy).1;rw[IJ a i (by omega),IJ b i (by omega),GE hx,GE hy,he];have h1:=EJ (ha.take i);rw[List.length_take,Nat.min_eq_left (by omega)]at h1;generalize val (b.drop (i+1))=r;generalize 4294967296^i=p at *;have:p*(x+4294967296*r)+p<=p*(y+4294967296*r):=by
  rw[<-Nat.mul_succ];exact Nat.mul_le_mul_left p (by omega)
 omega
theorem VY {o:List Nat} {k v old:Nat} (h:o[k]? = some old):val (o.set k v)+4294967296^k*old=val o+4294967296^k*v:=by
 have hk:=(zS h).1;have h1:val (o.set k v)=val (o.take k)+4294967296^k*(v+4294967296*val (o.drop (k+1))):=by
  rw[IJ (o.set k v) k (by simp;omega),List.take_set_of_le (Nat.le_refl k),GE (l:=o.set k v) (d:=v) (by rw[List.getElem?_set_self hk]),List.drop_set_of_lt (by omega)]
 have h2:val o=val (o.take k)+4294967296^k*(old+4294967296*val (o.drop (k+1))):=by
  rw[IJ o k (by omega),GE h]
 rw[h1,h2,Nat.mul_add,Nat.mul_add];omega
theorem SY {l:List Nat} (h:AX l):l.take (dg (val l)).length=dg (val l):=by
 induction l with
 | nil=>rw[HP,EH];rfl
 | cons d l ih =>
  have h1:=h.head;by_cases h0:val (d::l)=0
  ·rw[h0,EH];rfl
  ·rw[HT h0,NJ,show (d+4294967296*val l)/4294967296=val l by omega,show (d+4294967296*val l)%4294967296=d by omega,List.length_cons,List.take_succ_cons,ih h.tail]
theorem Q1 {a b:Nat} (h:(dg a).length<(dg b).length):a<b:=by
 have h1:a<4294967296^(dg a).length:=MF.1 (Nat.le_refl _);have h2 : ¬ b<4294967296^((dg b).length-1):=λ h3=>by have:=MF.2 h3;omega
 have h3:4294967296^(dg a).length<=4294967296^((dg b).length-1):=Nat.pow_le_pow_right (by omega) (by omega);omega
end Go.c4

namespace Go.c4
section
variable {K:AV->Prop} {a b:Nat} {k':IntKind}
theorem wrap_u32 (n:Nat):IntKind.u32.wrap (n:Int)=((n%4294967296:Nat):Int):=by rw[IntKind.wrap_u32];omega
theorem Nf (n:Nat):IntKind.u64.wrap (n:Int)=((n%18446744073709551616:Nat):Int):=by
 simp [IntKind.wrap,IntKind.bits,IntKind.signed]
theorem FB (h:a+b<=18446744073709551615) (hk:K (.int .u64 ((a+b:Nat):Int))):AB .add .u64 (a:Int) .u64 (b:Int) K :=
 ⟨_,by simp only[C6,if_true];rw[IntWalk.u64_in _ (by omega)],by simpa using hk⟩
theorem HQ (h:b<=a) (h2:a<=18446744073709551615) (hk:K (.int .u64 ((a-b:Nat):Int))):AB .sub .u64 (a:Int) .u64 (b:Int) K :=
 ⟨_,by simp only[C6,if_true];rw[IntWalk.u64_in _ (by omega)],by rw[show (a:Int)-b=((a-b:Nat):Int) by omega];exact hk⟩
theorem TD (h:b<=18446744073709551616) (hk:K (.int .u64 ((D7 a b:Nat):Int))):AB .sub .u64 (a:Int) .u64 (b:Int) K :=
 S8 (v := .int .u64 (IntKind.u64.wrap ((a:Int)-b))) (by simp only[C6,if_true]) (by
  have e:IntKind.u64.wrap ((a:Int)-b)=((D7 a b:Nat):Int):=by
   rw[PX];simp only[IntKind.wrap,IntKind.bits,IntKind.signed];simp;omega
  rw[e];exact hk)
theorem MS (h:a*b<=18446744073709551615) (hk:K (.int .u64 ((a*b:Nat):Int))):AB .mul .u64 (a:Int) .u64 (b:Int) K :=
 ⟨_,by simp only[C6,if_true];rw[<-Int.natCast_mul,IntWalk.u64_in _ (by omega)],hk⟩
theorem TB (h:0<b) (h2:a<=18446744073709551615) (hk:K (.int .u64 ((a/b:Nat):Int))):AB .quo .u64 (a:Int) .u64 (b:Int) K:=by
 refine ⟨_,by simp only[C6];rw[if_pos ⟨trivial,by omega⟩],?_⟩;rw[IntWalk.u64_quo _ _ ⟨by omega,by omega,by omega⟩,<-Int.natCast_ediv];exact hk
theorem Q7 (h:0<b) (hk:K (.int .u64 ((a%b:Nat):Int))):AB .rem .u64 (a:Int) .u64 (b:Int) K:=by
 refine ⟨_,by simp only[C6];rw[if_pos ⟨trivial,by omega⟩],?_⟩;rw[IntWalk.rem_in _ _ (by omega),<-Int.natCast_emod];exact hk
theorem Me {k:IntKind} {n:Nat} (hn:n<=k.bits):C6 .shl k (a:Int) k' (n:Int)=some (.int k (k.wrap ((a*2^n:Nat):Int))):=by
 simp only[C6];rw[if_neg (by omega),Int.toNat_natCast,Nat.min_eq_left hn];simp
theorem Mg {k:IntKind} {n:Nat} (hn:n<=k.bits):C6 .shr k (a:Int) k' (n:Int)=some (.int k ((a/2^n:Nat):Int)):=by
 simp only[C6];rw[if_neg (by omega),Int.toNat_natCast,Nat.min_eq_left hn,Int.fdiv_eq_ediv_of_nonneg _ (Int.le_of_lt (Int.pow_pos (by omega)))];simp
theorem V9 {k:IntKind} {n:Nat} (hn:n<=k.bits) (hk:K (.int k (k.wrap ((a*2^n:Nat):Int)))):AB .shl k (a:Int) k' (n:Int) K:=⟨_,Me hn,hk⟩
theorem MU {k:IntKind} {n:Nat} (hn:n<=k.bits) (hk:K (.int k ((a/2^n:Nat):Int))):AB .shr k (a:Int) k' (n:Int) K:=⟨_,Mg hn,hk⟩
theorem L7 (h:a<=4294967295) (hk:K (.int .u64 ((a*4294967296:Nat):Int))):AB .shl .u64 (a:Int) k' 32 K:=by
 refine V9 (n:=32) (by decide) ?_;rw[Nf,show a*2^32%18446744073709551616=a*4294967296 by omega];exact hk
theorem ET (hk:K (.int .u64 ((a/4294967296:Nat):Int))):AB .shr .u64 (a:Int) k' 32 K:=MU (n:=32) (by decide) hk
theorem TC (hk:K (.int .u64 ((a/9223372036854775808:Nat):Int))):AB .shr .u64 (a:Int) k' 63 K:=MU (n:=63) (by decide) hk
theorem oX (hk:K (.int .u64 ((a/4:Nat):Int))):AB .shr .u64 (a:Int) k' 2 K:=MU (n:=2) (by decide) hk
theorem oW (hk:K (.int .u32 ((a/65536:Nat):Int))):AB .shr .u32 (a:Int) k' 16 K:=MU (n:=16) (by decide) hk
theorem oY (hk:K (.int .u32 ((a/256:Nat):Int))):AB .shr .u32 (a:Int) k' 8 K:=MU (n:=8) (by decide) hk
theorem oV (hk:K (.int .u32 ((a/2:Nat):Int))):AB .shr .u32 (a:Int) k' 1 K:=MU (n:=1) (by decide) hk
theorem Y7 (w n:Nat):(BitVec.ofInt w (n:Int)).toNat=n%2^w:=by rw[BitVec.toNat_ofInt];omega
theorem Mm {n x y:Nat} (hx:x%2^n=0) (hy:y<2^n):x ||| y=x+y:=by
 have e:x=2^n*(x/2^n):=by have:=Nat.mod_add_div x (2^n);omega
 rw[e,<-Nat.two_pow_add_eq_or_of_lt hy]
theorem V8 {k:IntKind} (n:Nat) (hx:a%2^n=0) (hy:b<2^n) (h:a+b<2^k.bits) (hw:k.wrap ((a+b:Nat):Int)=((a+b:Nat):Int)) (hk:K (.int k ((a+b:Nat):Int))):AB .or k (a:Int) k (b:Int) K:=by
 refine S8 (v := .int k (k.wrap (BitVec.ofInt k.bits (a:Int) ||| BitVec.ofInt k.bits (b:Int)).toNat)) (by simp only[C6,if_true]) ?_;rw[BitVec.toNat_or,Y7,Y7,Nat.mod_eq_of_lt (by omega),Nat.mod_eq_of_lt (by omega),Mm hx hy,hw];exact hk
theorem MT (h:a%4294967296=0/\b<4294967296/\a+b<=18446744073709551615) (hk:K (.int .u64 ((a+b:Nat):Int))):AB .or .u64 (a:Int) .u64 (b:Int) K :=
 V8 32 h.1 h.2.1 (show a+b<18446744073709551616 by omega) (IntWalk.u64_in _ (by omega)) hk
theorem bJ (h:a<=18446744073709551615) (hk:K (.int .u64 ((a%4294967296:Nat):Int))):AB .and .u64 (a:Int) .u64 4294967295 K:=by
 refine S8 (v := .int .u64 (IntKind.u64.wrap (BitVec.ofInt IntKind.u64.bits (a:Int) &&& BitVec.ofInt IntKind.u64.bits 4294967295).toNat)) (by simp only[C6,if_true]) ?_;rw[BitVec.toNat_and,Y7,show (BitVec.ofInt IntKind.u64.bits 4294967295).toNat=2^32-1 by decide,Nat.and_two_pow_sub_one_eq_mod,show a%2^IntKind.u64.bits=a from Nat.mod_eq_of_lt (show a<18446744073709551616 by omega),IntWalk.u64_in _ (by omega)];exact hk
theorem bI (hk:K (.int .u32 (((a+b)%4294967296:Nat):Int))):AB .add .u32 (a:Int) .u32 (b:Int) K :=
 S8 (v := .int .u32 (IntKind.u32.wrap ((a:Int)+b))) (by simp only[C6,if_true]) (by rw[<-Int.natCast_add,wrap_u32];exact hk)
end
section
variable {K:Int->Prop} {n:Nat}
theorem aX (h:n<=18446744073709551615) (hk:K (n:Int)):AQ .u64 (n:Int) K:=Q3 (IntWalk.u64_in _ (by omega)) hk
theorem DU (h:n<=4294967295) (hk:K (n:Int)):AQ .u32 (n:Int) K:=Q3 (IntWalk.u32_in _ (by omega)) hk
theorem E2 (hk:K ((n%4294967296:Nat):Int)):AQ .u32 (n:Int) K:=by unfold AQ;rw[wrap_u32];exact hk
theorem oN (h:n<=255) (hk:K (n:Int)):AQ .u8 (n:Int) K:=Q3 (IntWalk.u8_in _ (by omega)) hk
end
theorem TK {tb:List Nat} {n v:Nat} {K:Nat->Prop} (hv:tb[n]? = some v) (hk:K v):ON tb (n:Int) K:=⟨by omega,v,by rw[Int.toNat_natCast];exact hv,hk⟩
abbrev AJ (n:Nat):List AV:=[.int .u32 (n:Int)]
theorem CO (l:List Nat):FO (l.map AJ):=RK (λ_=>by simp [CM,A1]) l
section
variable {l:List Nat} {K:List AV->Prop}
theorem TE {n:Nat} (hD:AX l) (hn:n<l.length) (h : ∀ e,l[n]? = some e->e<4294967296->K (AJ e)):AY (l.map AJ) (n:Int) 1 K :=
 pI hn (λ_=>rfl) λ e he=>h e he (hD.at he)
theorem NP {a:Int} (hD:AX l) (hn:0<=a/\a<l.length) (h : ∀ e,l[a.toNat]? = some e->e<4294967296->K (AJ e)):AY (l.map AJ) a 1 K :=
 WB hn (λ_=>rfl) λ e he=>h e he (hD.at he)
theorem bG {i:Nat} (hD:AX l) (hi:i<l.length) (h : ∀ e,l[i]? = some e->e<4294967296->K (AJ e)):A7 (l.map AJ) (0+((i:Int)).toNat) 0 1 K :=
 bH (f:=AJ) hi (λ_=>rfl) λ e he=>h e he (hD.at he)
theorem OK {i:Int} (hD:AX l) (hi:0<=i/\i<l.length) (h : ∀ e,l[i.toNat]? = some e->e<4294967296->K (AJ e)):A7 (l.map AJ) (0+i.toNat) 0 1 K :=
 S6 (f:=AJ) hi (λ_=>rfl) λ e he=>h e he (hD.at he)
theorem EQ {i v:Nat} {KK:List (List AV)->Prop} (hi:i<l.length) (h:KK ((l.set i v).map AJ)):A6 (l.map AJ) (0+((i:Int)).toNat) 0 [.int .u32 (v:Int)] KK:=NR (enc:=AJ) v rfl (λ_=>rfl) hi h
theorem TI {i v:Nat} {KK:List (List AV)->Prop} (n:Nat) (hn:i=n) (hi:n<l.length) (h:KK ((l.set n v).map AJ)):A6 (l.map AJ) i 0 [.int .u32 (v:Int)] KK:=P4 (enc:=AJ) n v hn rfl (λ_=>rfl) hi h
end
end Go.c4
namespace Go.c4
variable {L:Lib}
theorem Ev.xE {f:Nat} {fn:AFn} {vs:List AV} {P:AV->Prop} (hL:L f=some fn) (hp:Nat.beq vs.length fn.v8=true) (hd:IU vs=true) (h:AA L [.code fn.body] (CB 0 vs) [] (λ tm M => ∃ r,NQ fn r tm M/\P r)) (hs:fn.jy=false:=by rfl) : ∃ r,Ev L f vs r/\P r:=by
 obtain ⟨n,c,j7,hr,σ,tm,M,hR,r,hq,hP⟩:=h (λ_ _=>(0,0)) ⟨CB 0 vs,AG.emp⟩ ⟨λ j=>Or.inr (by rw[IH];exact RN hd j),⟨(λ_ _ _ e=>by cases e),(λ_ _ _ e=>by simp [c6,c7]at e),(λ_ _ _ e=>by simp [c6,c7]at e),(λ_ _ _ _ _ _ e=>by simp [c6,c7]at e),(λ_ _ _ e=>by simp [c6,c7]at e)⟩⟩;exact ⟨r,Ev.fwd hL (BB.1 hp) ⟨n,c,j7,hr,bQ hR hq⟩ hs,hP⟩
def QR:DG->Bool
 | .y6 .. | .box .. | .alloc .. | .e8 .. | .st .. | .mk .. | .app .. | .jg .. | .g6 .. | .n9 .. | .jc .. | .o5 .. | .ax .. | .je .. | .jd .. | .w9 .. => false
 | _=>true
def HB:BA->Bool
 | .skip=>true
 | .ops l _=>l.all λ a=>QR a.op
 | .dr c _ ss=>HB c&&ss.isEmpty
 | .scope c=>HB c
 | .seq a b=>HB a&&HB b
 | .cond _ a b=>HB a&&HB b
 | .block _ c=>HB c
 | .loop c=>HB c
 | .exit _=>true
 | .ret=>true
def M9:It->Bool
 | .code c=>HB c
 | .im _ ss=>ss.isEmpty
 | .c9 _=>true
 | .lp c=>HB c
theorem vU {C:Cl} {b9:List Nat} {ρ:AM->AV} {own:AG} {op:DG} {E:BT} (ho:QR op=true) (h:c8 C b9 ρ own op=some E) : ∃ v,E = .val v:=by
 cases op<;>first|(simp [QR]at ho;done)|skip
 all_goals simp only[c8]at h
 all_goals
  first
   | (simp only[Option.some.injEq]at h;exact ⟨_,h.symm⟩)
   | (simp only[Option.map_eq_some_iff]at h;obtain ⟨_,_,rfl⟩:=h;exact ⟨_,rfl⟩)
   | skip
 all_goals (repeat' split at h)
 all_goals
  first
   | (cases h;done)
   | (simp only[Option.some.injEq]at h;exact ⟨_,h.symm⟩)
   | (simp only[Option.map_eq_some_iff]at h;obtain ⟨_,_,rfl⟩:=h;exact ⟨_,rfl⟩)
theorem Nm {C:Cl} {a:AI} (ho:QR a.op=true) {s s':St} (h:CZ C a s=some s'):s'.own=s.own:=by
 unfold CZ at h;split at h
 ·cases he:c8 C a.b9 s.ev s.own a.op with
  | none=>rw[he]at h;cases h
  | some E =>
   rw[he]at h;obtain ⟨v,rfl⟩:=vU ho he;simp only[Option.map_some,Option.some.injEq]at h;subst h;simp only[St.app];cases a.dst<;>rfl
 ·simp only[Option.some.injEq]at h
  subst h;cases a.dst<;>rfl
 ·cases h
theorem mK {C:Cl} : ∀ {l:List AI},(l.all λ a=>QR a.op)=true -> ∀ {s s':St},C3 C l s=some s'->s'.own=s.own
 | [],_,s,s',h=>by simp only[C3,Option.some.injEq]at h;rw[h]
 | a::l,ho,s,s',h=>by
  simp only[List.all_cons,Bool.and_eq_true]at ho;simp only[C3]at h;cases h1:CZ C a s with
  | none=>rw[h1]at h;cases h
  | some s1 =>
   rw[h1]at h;rw[mK ho.2 h,Nm ho.1 h1]
theorem RZ {id:Nat} : ∀ {k k':List It},k.all M9=true->EU id k=some k'->k'.all M9=true
 | [],_,_,h=>by simp [EU]at h
 | it::k,k',hk,h=>by
  simp only[List.all_cons,Bool.and_eq_true]at hk;cases it with
  | c9 i =>
   simp only[EU]at h;split at h
   ·cases h;exact hk.2
   ·exact RZ hk.2 h
  | code c=>simp only[EU]at h;exact RZ hk.2 h
  | im a b=>simp only[EU]at h;exact RZ hk.2 h
  | lp c=>simp only[EU]at h;exact RZ hk.2 h
theorem HM {C:Cl} : ∀ (n:Nat) {k:List It},k.all M9=true -> ∀ {s s':St},run C n k s=some s'->s'.own=s.own
 | 0,k,_,s,s',h=>by simp [run]at h
 | n+1,[],_,s,s',h=>by
  simp only[run,Option.some.injEq]at h;rw[h]
 | n+1,it::k,hk,s,s',h=>by
  have dh:=hk;simp only[List.all_cons,Bool.and_eq_true]at hk;obtain ⟨hi,hk⟩:=hk;cases it with
  | c9 _=>simp only[run]at h;exact HM n hk h
  | im ts ss =>
   have:ss=[]:=by simpa [M9] using hi
   subst this;simp only[run]at h;rw[HM n hk h];rfl
  | lp c=>simp only[run]at h;exact HM n (by simp only[List.all_cons,Bool.and_eq_true];exact ⟨hi,hi,hk⟩) h
  | code c =>
   cases c with
   | skip=>simp only[run]at h;exact HM n hk h
   | ops l d =>
    simp only[run]at h;cases h1:C3 C l s with
    | none=>rw[h1]at h;cases h
    | some s1 =>
     rw[h1]at h;rw[HM n hk h,mK (show (l.all λ a=>QR a.op)=true from hi) h1]
   | dr c ts ss =>
    simp only[run]at h;simp only[M9,HB,Bool.and_eq_true]at hi;exact HM n (by simp only[List.all_cons,Bool.and_eq_true];exact ⟨hi.1,hi.2,hk⟩) h
   | scope c=>simp only[run]at h;exact HM n (by simp only[List.all_cons,Bool.and_eq_true];exact ⟨hi,hk⟩) h
   | seq a b =>
    simp only[run]at h;simp only[M9,HB,Bool.and_eq_true]at hi;exact HM n (by simp only[List.all_cons,Bool.and_eq_true];exact ⟨hi.1,hi.2,hk⟩) h
   | cond x a b =>
    simp only[M9,HB,Bool.and_eq_true]at hi;simp only[run]at h;split at h
    ·exact HM n (by simp only[List.all_cons,Bool.and_eq_true];exact ⟨hi.1,hk⟩) h
    ·exact HM n (by simp only[List.all_cons,Bool.and_eq_true];exact ⟨hi.2,hk⟩) h
    ·cases h
   | block id c=>simp only[run]at h;exact HM n (by simp only[List.all_cons,Bool.and_eq_true];exact ⟨hi,rfl,hk⟩) h
   | loop c=>simp only[run]at h;exact HM n (by simp only[List.all_cons,Bool.and_eq_true];exact ⟨hi,hi,hk⟩) h
   | exit id =>
    simp only[run]at h;split at h
    ·rename_i k' he
     exact HM n (RZ hk he) h
    ·cases h
   | ret =>
    simp only[run,Option.some.injEq]at h;rw[h]
def pK (fn:AFn) (r:AV) (tm:Tm) (_M:Mem):Prop := ∃ rs,N5 tm fn.res=some rs/\G1 rs=r
def T9:AV->Bool
 | .j4 vs=>IU vs
 | v=>NV v
theorem dN {σ:E4} {v:AV} (h:T9 v=true):A8 σ v=v:=by
 cases v with
 | j4 vs =>
  simp only[A8];congr 1;simp only[T9]at h;induction vs with
  | nil=>rfl
  | cons v r ih =>
   simp only[IU]at h;cases hv:NV v<;>simp only[hv,cond_true,cond_false]at h
   ·cases h
   ·rw[List.map_cons,ih h]
    congr 1;cases v<;>first|rfl|(simp [NV,nf]at hv;done)|skip
    rename_i cs;exact T8 (σ:=σ) (v := .agg cs) hv
 | _=>exact T8 (σ:=σ) h
def Q9 (L:Lib) (f:Nat) (vs:List AV) (r:AV):Prop:=T9 r=true/\(∀ σ:E4,vs.map (A8 σ)=vs) /\ ∀ own:AG,FP L f vs own r own
theorem dL {σ:E4} : ∀ {vs:List AV},IU vs=true->vs.map (A8 σ)=vs
 | [],_=>rfl
 | v::r,h=>by
  simp only[IU]at h;cases hv:NV v<;>simp only[hv,cond_true,cond_false]at h
  ·cases h
  ·rw[List.map_cons,T8 hv,dL h]
theorem pL {f:Nat} {fn:AFn} {vs:List AV} {r:AV} (hL:L f=some fn) (hp:Nat.beq vs.length fn.v8=true) (hd:IU vs=true) (zt:HB fn.body=true) (l6:SN 100000 fn.res=true) (hr:T9 r=true) (h:AA L [.code fn.body] (CB 0 vs) [] (pK fn r)):Q9 L f vs r:=by
 refine ⟨hr,λ σ=>dL hd,λ own => ?_⟩;obtain ⟨n,c,j7,m6,σ,tm,M,hR,rs,zu,he⟩:=h (λ_ _=>(0,0)) ⟨CB 0 vs,own⟩ ⟨λ j=>Or.inr (by rw[IH];exact RN hd j),⟨(λ_ _ _ e=>by cases e),(λ_ _ _ e=>by simp [c6,c7]at e),(λ_ _ _ e=>by simp [c6,c7]at e),(λ_ _ _ _ _ _ e=>by simp [c6,c7]at e),(λ_ _ _ e=>by simp [c6,c7]at e)⟩⟩;have ho:=HM n (by simp [M9,zt]) m6;obtain ⟨i1,i2⟩:=ZM (N:=100000) (s:=j7) hR (λ_ _=>rfl) l6 zu;refine FP.intro hL (BB.1 hp) ⟨n,c,j7,m6,?_,ho⟩;rw[i1,Option.map_some,kS i2,he,dN hr]
theorem IO {f:Nat} {vs:List AV} {r:AV} {tm:Tm} {M:Mem} {K:AV->Mem->Prop} (h:Q9 L f vs r) (hk:K r M):A4 L f vs tm M K:=by
 intro σ own hs;refine ⟨r,own,σ,M,?_,hs,λ_=>rfl,hk⟩;rw[h.2.1 σ,dN h.1];exact h.2.2 own
end Go.c4

namespace Go.c4
variable {L:Lib}
def bP (fn:AFn) (z:Nat) (es:List (List AV)) (tm:Tm) (M:Mem):Prop:=match fn.res with
 | [.tmp t]=>match tg tm t with
  | .row k 0 z' 0 n=>match c7 M k with
   | some (_,.rw w8 es')=>z'=z/\w8=z/\n=es.length/\es'=es/\FO es
   | _=>False
  | _=>False
 | _=>False
theorem MR.x {f:Nat} {fn:AFn} {vs:List AV} {z:Nat} {es:List (List AV)} (hL:L f=some fn) (hp:Nat.beq vs.length fn.v8=true) (hd:IU vs=true) (h:AA L [.code fn.body] (CB 0 vs) [] (bP fn z es)):MR L f vs z es:=by
 obtain ⟨n,c,j7,hr,σ,tm,M,hR,hq⟩:=h (λ_ _=>(0,0)) ⟨CB 0 vs,AG.emp⟩ ⟨λ j=>Or.inr (by rw[IH];exact RN hd j),⟨(λ_ _ _ e=>by cases e),(λ_ _ _ e=>by simp [c6,c7]at e),(λ_ _ _ e=>by simp [c6,c7]at e),(λ_ _ _ _ _ _ e=>by simp [c6,c7]at e),(λ_ _ _ e=>by simp [c6,c7]at e)⟩⟩;unfold bP at hq;split at hq
 ·rename_i t jn
  split at hq
  ·rename_i k z' m He
   split at hq
   ·rename_i s w8 es' hM
    obtain ⟨rfl,rfl,rfl,rfl,n6⟩:=hq;have hv:e9 j7.tm t = .row (σ k 0).1 (σ k 0).2 w8 0 es'.length:=by
     rcases hR.tm t with e|e
     ·rw[He]at e;cases e
     ·rw[e,He];rfl
    have hb:=hR.sat.c9 k 0 (.rw w8 es') (by simp only[c6,hM]);obtain ⟨q,hq⟩:=FP.intro (r := .row (σ k 0).1 (σ k 0).2 w8 0 es'.length) (o':=j7.own) hL (BB.1 hp) ⟨n,c,j7,hr,by simp [jn,EN,hv,HX,G1],rfl⟩;refine ⟨q,?_⟩;simp only[hq,L9,AG.get,hb];rw[if_pos (show (A3.c9 σ k (.rw w8 es')).es.length=es'.length/\FO (A3.c9 σ k (.rw w8 es')).es from ⟨rfl,n6⟩)];rfl
   ·exact hq.elim
  ·exact hq.elim
 ·exact hq.elim
theorem L5 {α:Type} {enc:α->List AV} {l:List α} {f z:Nat} {vs:List AV} {K:Nat->List (List AV)->Nat->Prop} (n:Nat) (h:MR L f vs z (l.map enc)) (hn:n=l.length) (hk:K z (l.map enc) n):B8 L f vs K:=⟨z,_,n,h,by simpa using hn,hk⟩
end Go.c4

namespace Go.c4
open F
attribute [local irreducible] AA AF AR AB B7 AQ AY A7 A6 BS AP BO BW C0 BL A0 BH BZ AC A4 AL pw CD B2 CH CX CS CK CI BI B8
set_option maxHeartbeats 1000000
variable {L:Lib}
def F4 (n:Int):Prop := -9223372036854775808<=n/\n<=9223372036854775807
structure Wd where
 b:Int
 f:Int
 r:Int
 o:Int
def WV (w:Wd):Prop:=4<=w.b/\w.b<=24/\0<=w.f/\w.f<w.b/\1<=w.r/\w.r<=3/\1<=w.o/\w.o<=2
instance (w : Wd) : Decidable (WV w) := by unfold WV; infer_instance
variable (w:Wd)
def Jn:Int:=if WV w then -pw (w.b-1) else 0
def zU:Int:=if WV w then pw (w.b-1)-1 else 0
def FT (v:Int):Prop:=WV w/\Jn w<=v/\v<=zU w
instance (v : Int) : Decidable (FT w v) := by unfold FT; infer_instance
end Go.c4

namespace Go.c4
open F
attribute [local irreducible] AA AF AR AB B7 AQ AY A7 A6 BS AP BO BW C0 BL A0 BH BZ AC A4 AL pw CD B2 CH CX CS CK CI BI B8
set_option maxHeartbeats 1000000
variable {L:Lib}
structure Nd where
 q:Bool
 ts:List (Int × Int)
structure Nt where
 d:Wd
 c:Wd
 s:Int
 qn:Bool
 nodes:List Nd
 qx:Bool
 next:List Int
 out:Int
variable (n:Nt)
end Go.c4

namespace Go.c4
open F
attribute [local irreducible] AA AF AR AB B7 AQ AY A7 A6 BS AP BO BW C0 BL A0 BH BZ AC A4 AL pw CD B2 CH CX CS CK CI BI B8
variable {L:Lib}
set_option maxHeartbeats 1000000
def EA (v m:Int):Int:=if m<1 then 0 else v%m
theorem X3 (W:o4 L) (v m:Int) (hv:F4 v) (hm:m<=9223372036854775807):Ev L 34 [.int .i64 v,.int .i64 m] (.int .i64 (EA v m)):=by
 unfold F4 at hv;refine Ev.x W.L4 rfl rfl ?_;(repeat' ((first|(apply AH<;>intro hc<;>try (exfalso;omega))|(apply AZ;omega)|(refine OL ?_ (λ_ _ _ => ?_) (λ_ _ _ _ => ?_);omega;all_goals try (exfalso;omega))|apply AE)<;>conv=>whnf))
 all_goals (refine CR ?_;unfold EA;first|rw[if_pos (by omega)]|rw[if_neg (by omega)])
 all_goals omega
def EC (l:List Int) (i:Int):Int:=if 0<=i/\i<l.length then l.getD i.toNat 0 else 0
theorem X2 (W:o4 L) (l:List Int) (q:Bool) (i:Int):Ev L 35 [.sl q (l.map NX),.int .i64 i] (.int .i64 (EC l i)):=by
 refine Ev.x W.L2 rfl rfl ?_;(repeat' ((first|(apply AH<;>intro hc<;>try (exfalso;omega))|apply AW|(refine WB ?_ (λ_=>rfl) (λ e he => ?_);omega)|apply AE)<;>conv=>whnf))
 all_goals (refine CR ?_;unfold EC;first|rw[if_neg (by omega)]|(rw[if_pos (by omega),List.getD_eq_getElem?_getD,he];rfl))
theorem My {v m:Int} (h:1<=m):0<=EA v m/\EA v m<m:=by
 unfold EA;rw[if_neg (by omega)];exact ⟨Int.emod_nonneg _ (by omega),Int.emod_lt_of_pos _ (by omega)⟩
def CT (a b:Int):Int:=if a<b then -1 else if b<a then 1 else 0
theorem HC {a b:Int} (h:a<b) : -1=CT a b:=by unfold CT;rw[if_pos h]
theorem ME {a b:Int} (h:b<a):1=CT a b:=by unfold CT;rw[if_neg (by omega),if_pos h]
theorem OV {a b:Int} (h:a=b):0=CT a b:=by unfold CT;rw[if_neg (by omega),if_neg (by omega)]
theorem wK (N:c5 L) (a:Int):Ev L 58 [.int .i64 a] (.bool false):=by
 refine Ev.x N.I7 rfl rfl ?_;(repeat' ((first|(apply AH<;>intro hc<;>try (exfalso;omega))|apply AE)<;>conv=>whnf))
 exact L6 rfl
theorem wL (N:c5 L) (a:Int):Ev L 59 [.int .u32 a] (.bool false):=by
 refine Ev.x N.I8 rfl rfl ?_;(repeat' ((first|(apply AH<;>intro hc<;>try (exfalso;omega))|apply AE)<;>conv=>whnf))
 exact L6 rfl
theorem wB (N:c5 L) (a b:Int):Ev L 60 [.int .i64 a,.int .i64 b] (.int .i64 (CT a b)):=by
 refine Ev.x N.I5 rfl rfl ?_;(repeat' ((first|(apply AH<;>intro hc<;>try (exfalso;omega))|apply AE|refine AD (wK N _) ?_)<;>conv=>whnf))
 ·exact CR (HC (by omega))
 ·exact CR (ME (by omega))
 ·exact CR (OV (by omega))
theorem wC (N:c5 L) (a b:Int):Ev L 61 [.int .u32 a,.int .u32 b] (.int .i64 (CT a b)):=by
 refine Ev.x N.I6 rfl rfl ?_;(repeat' ((first|(apply AH<;>intro hc<;>try (exfalso;omega))|apply AE|refine AD (wL N _) ?_)<;>conv=>whnf))
 ·exact CR (HC (by omega))
 ·exact CR (ME (by omega))
 ·exact CR (OV (by omega))
theorem fA (N:c5 L) (l:List Nat) (q:Bool) (hl:l.length<=1099511627776):Ev L 62 [.sl q (l.map AJ)] (.sl false (l.map AJ)):=by
 cases l with
 | nil =>
  refine E3.nil N.GS (E3.x N.GS rfl rfl ?_) (E3.x N.GS rfl rfl ?_)
  ·(repeat' (apply AE<;>conv=>whnf))
   exact AU rfl (by simp [A1,FO])
  ·(repeat' (apply AE<;>conv=>whnf))
   refine aT (enc:=AJ) (l:=[]) (l':=[]) rfl (λ_=>rfl) (by simp) (by simp) ?_;(conv=>whnf)
   (repeat' ((refine DX (λ_=>rfl) rfl ?_ ?_;(first|rfl|simp))<;>conv=>whnf))
   exact AU rfl (by simp [A1,FO])
 | cons d l =>
  refine E3.cons (E3.x N.GS rfl rfl ?_);(repeat' (apply AE<;>conv=>whnf))
  refine A9 (by simp) ?_;(conv=>whnf)
  skip
  refine aT (enc:=AJ) (l:=[]) (l':=d::l) rfl (λ_=>rfl) (by simp at hl ⊢;omega) (by simp at hl ⊢;omega) ?_;(conv=>whnf)
  (repeat' ((refine DX (λ_=>rfl) rfl ?_ ?_;(first|rfl|simp))<;>conv=>whnf))
  exact AU rfl (by simp only[A1,true_and];exact CO (d::l))
theorem I0 (N:c5 L) (l:List Nat) (q:Bool) (hD:AX l) (hl:l.length<=1099511627776):Q9 L 65 [.sl q (l.map AJ)] (.sl q ((dg (val l)).map AJ)):=by
 refine pL N.E0 rfl rfl rfl rfl rfl ?_;(repeat' ((first|apply AW|apply AE)<;>conv=>whnf))
 refine CW (λ n=>n) (λ(n:Nat)=>n<=l.length /\ ∀ i,n<=i->i<l.length->l[i]? = some 0) (λ n=>[(3,.int .i64 n)]) (λ_=>[]) [] [] l.length (by (conv=>whnf);exact ⟨rfl,rfl,rfl⟩) ⟨Nat.le_refl _,λ i h1 h2=>by omega⟩ ?_;intro n ⟨p1,p2⟩ ih;rcases n with _|n
 ·(repeat' ((first|(apply AH<;>intro hc<;>try (exfalso;omega))|apply AE)<;>conv=>whnf))
  refine OM (k:=0) (λ_=>rfl) (by omega) ?_;(conv=>whnf)
  refine ⟨_,rfl,?_⟩;rw[FG hD p1 p2 (Or.inl rfl)];rfl
 ·have e1:((n+1:Nat):Int)-1=n:=by omega
  (repeat' ((first|(apply AH<;>intro hc<;>try (exfalso;omega))|(apply BX;omega)|(refine NP (by assumption) ?_ (λ e he hb => ?_);omega)|apply AE)<;>conv=>whnf))
  ·rw[e1]
   exact BQ [] (ih n (by omega) ⟨by omega,λ i h1 h2=>by
    by_cases h:i=n
    ·subst h
     rw[e1,Int.toNat_natCast]at he;rw[he];congr 1;omega
    ·exact p2 i (by omega) h2⟩)
  ·refine OM (k:=n+1) (λ_=>rfl) (by omega) ?_
   (conv=>whnf)
   refine ⟨_,rfl,?_⟩;rw[e1,Int.toNat_natCast]at he;rw[FG hD p1 p2 (Or.inr ⟨e,he,by omega⟩)];rfl
theorem RT (N:c5 L) (l:List Nat) (q:Bool) (hD:AX l) (hl:l.length<=1099511627776):Ev L 66 [.sl q (l.map AJ)] (.sl false ((dg (val l)).map AJ)):=by
 have hc:=ED hD;refine Ev.x N.JW rfl rfl ?_;(repeat' ((first|apply AE|refine IO (I0 N l _ hD hl) ?_|refine AD (fA N (dg (val l)) _ (by omega)) ?_)<;>conv=>whnf))
 exact AU rfl (by simp only[A1,true_and];exact CO _)
theorem sB {a b:Nat} (h:((dg a).length:Int)≠(dg b).length):CT (dg a).length (dg b).length=CT a b:=by
 rcases Nat.lt_trichotomy (dg a).length (dg b).length with h1|h1|h1
 ·have:=Q1 h1
  rw[<-HC (by omega),<-HC (by omega)]
 ·omega
 ·have:=Q1 h1
  rw[<-ME (by omega),<-ME (by omega)]
theorem M7 (N:c5 L) (a b:List Nat) (q1 q2:Bool) (hA:AX a) (hB:AX b) (la:a.length<=1099511627776) (lb:b.length<=1099511627776):Ev L 67 [.sl q1 (a.map AJ),.sl q2 (b.map AJ)] (.int .i64 (CT (val a) (val b))):=by
 have l1:=ED hA;have l2:=ED hB;have d1:=DF (val a);have d2:=DF (val b);refine Ev.x N.JS rfl rfl ?_;(repeat' ((first|(apply AH<;>intro hc<;>try (exfalso;omega))|(apply BX;omega)|apply AW|apply AE|refine IO (I0 N a _ hA la) ?_|refine IO (I0 N b _ hB lb) ?_|refine AD (wB N _ _) ?_)<;>conv=>whnf))
 ·exact CR (sB (by omega))
 have hlen:(dg (val a)).length=(dg (val b)).length:=by omega
 have v1:=BK (val a);have v2:=BK (val b);generalize dg (val a)=X at *;generalize dg (val b)=Y at *;refine CW (λ n=>n) (λ(n:Nat)=>n<=X.length/\X.drop n=Y.drop n) (λ n=>[(7,.int .i64 ((n:Int)-1))]) (λ_=>[]) [] [] X.length (by (conv=>whnf);exact ⟨rfl,rfl,rfl⟩) ⟨Nat.le_refl _,by rw[List.drop_of_length_le (Nat.le_refl _),List.drop_of_length_le (by omega)]⟩ ?_;intro n ⟨p1,p2⟩ ih;rcases n with _|n
 ·(repeat' ((first|(apply AH<;>intro hc<;>try (exfalso;omega))|apply AE)<;>conv=>whnf))
  rw[List.drop_zero,List.drop_zero]at p2;exact CR (OV (by rw[<-v1,<-v2,p2]))
 ·have e1:((n+1:Nat):Int)-1=n:=by omega
  rw[e1];(repeat' ((first|(apply AH<;>intro hc<;>try (exfalso;omega))|(apply BX;omega)|(refine BJ (by assumption) ?_ rfl ?_;omega)|(refine TE (by assumption) ?_ (λ e he hb => ?_);omega)|apply AE|refine AD (wC N _ _) ?_)<;>conv=>whnf))
  ·rename_i x hx _
   rcases Nat.lt_trichotomy x e with h|h|h
   ·have:=VX d1 d2 hlen hx he p2 h
    refine CR ?_;rw[<-HC (by omega),<-HC (by omega)]
   ·omega
   ·have:=VX d2 d1 hlen.symm he hx p2.symm h
    refine CR ?_;rw[<-ME (by omega),<-ME (by omega)]
  ·rename_i x hx _
   refine B0 [] (by (conv=>whnf);exact ⟨rfl,rfl,rfl⟩) (ih n (by omega) ⟨by omega,?_⟩);obtain ⟨i1,e1⟩:=zS hx;obtain ⟨i2,e2⟩:=zS he;rw[List.drop_eq_getElem_cons i1,List.drop_eq_getElem_cons i2,p2,e1,e2];congr 1;omega
end Go.c4

namespace Go.c4
section
variable {U V UL VL p u0 u1 u2 v1 v2 top q r:Nat}
theorem yW (hU:U=UL+p*(u2+4294967296*top)) (hV:V=VL+p*(v2+4294967296*v1)) (hl:UL<p) (h2:u2<4294967296) (v3:0<V):U/V*v1<=top:=by
 have h1:U/V*V<=U:=Nat.div_mul_le_self U V;generalize U/V=Q at *;have h3:U<p*(4294967296*(top+1)):=by
  have:p*(u2+4294967296*top)+p<=p*(4294967296*(top+1)):=by
   rw[<-Nat.mul_succ];exact Nat.mul_le_mul_left p (by omega)
  omega
 have h4:p*(4294967296*(Q*v1))<=Q*V:=by
  have e:Q*V=Q*VL+Q*(p*v2)+p*(4294967296*(Q*v1)):=by rw[hV];grind
  omega
 have h5:p*(4294967296*(Q*v1))<p*(4294967296*(top+1)):=by omega
 have:=Nat.lt_of_mul_lt_mul_left h5
 omega
theorem yV (hU:U=UL+p*(u2+4294967296*top)) (hV:V=VL+p*(v2+4294967296*v1)) (hl:UL<p) (hq:q*v1+r=top) (h:r*4294967296+u2<q*v2) (v3:0<V):U/V<q:=by
 rw[Nat.div_lt_iff_lt_mul v3];have e:q*V=q*VL+p*(q*v2+4294967296*(q*v1)):=by rw[hV];grind
 have h1:p*(u2+4294967296*top)+p<=p*(q*v2+4294967296*(q*v1)):=by
  rw[<-Nat.mul_succ];exact Nat.mul_le_mul_left p (by omega)
 omega
theorem yU (h:U<4294967296*V) (hq:4294967296<=q) (v3:0<V):U/V<q:=by
 have:U/V<4294967296:=(Nat.div_lt_iff_lt_mul v3).2 h
 omega
theorem iE (hU:U=UL+p*(u2+4294967296*top)) (hV:V=VL+p*(v2+4294967296*v1)) (tt:VL<p) (h1:2147483648<=v1) (hq:q*v1+r=top) (h:q*v2<=r*4294967296+u2) (Ua:q<4294967296):q<=U/V+1:=by
 have v3:0<V:=by
  have:p*4294967296<=p*(v2+4294967296*v1):=Nat.mul_le_mul_left p (by omega)
  omega
 by_cases h0:q=0
 ·subst h0;exact Nat.zero_le _
 have e:q*V=q*VL+p*(q*v2+4294967296*(q*v1)):=by rw[hV];grind
 have h2:p*(q*v2+4294967296*(q*v1))<=p*(u2+4294967296*top):=Nat.mul_le_mul_left p (by omega);have h3:q*VL<V:=by
  have a1:q*VL<=4294967296*VL:=Nat.mul_le_mul_right _ (by omega);have a2:p*4294967296<=p*(v2+4294967296*v1):=Nat.mul_le_mul_left p (by omega);omega
 have h4:(q-1)*V<U+1:=by
  have:(q-1)*V+V=q*V:=by
   have:q=q-1+1:=by omega
   rw[<-Nat.succ_mul,Nat.succ_eq_add_one,<-this]
  omega
 have h5:q-1<=U/V:=(Nat.le_div_iff_mul_le v3).2 (by omega);omega
end
theorem dR {U V U' q:Nat} (v3:0<V) (h1:U/V<=q) (h:U'+q*V=U):q=U/V/\U'=U%V:=by
 have h2:q*V<=U:=by omega
 have h3:q<=U/V:=(Nat.le_div_iff_mul_le v3).2 h2;have h4:q=U/V:=by omega
 have:=Nat.div_add_mod U V
 rw[Nat.mul_comm,<-h4]at this;exact ⟨h4,by omega⟩
theorem dQ {U V U' q P:Nat} (v3:0<V) (h2:q<=U/V+1) (vm:U'<P) (h:U'+q*V=U+P):q-1=U/V/\1<=q/\U'+V=U%V+P:=by
 have h3:U/V*V<=U:=Nat.div_mul_le_self U V;have h4:U/V<q:=by
  rcases Nat.lt_or_ge (U/V) q with h|h
  ·exact h
  ·have:q*V<=U/V*V:=Nat.mul_le_mul_right _ h
   omega
 have h6:=Nat.div_add_mod U V;rw[Nat.mul_comm]at h6;generalize U/V=Q at *;generalize U%V=R at *;obtain rfl:q=Q+1:=by omega
 rw[Nat.add_mul,Nat.one_mul]at h;exact ⟨by omega,by omega,by omega⟩
theorem VU {u pl bw:Nat} (hu:u<4294967296) (hp:pl<4294967296) (hb:bw<=1):D7 (D7 u pl) bw%4294967296+pl+bw=u+4294967296*(D7 (D7 u pl) bw/9223372036854775808)/\D7 (D7 u pl) bw/9223372036854775808<=1:=by
 rw[PX,PX];omega
theorem Ns {d e bw:Nat} (hu:d<4294967296) (hp:e<4294967296) (hb:bw<=1):D7 (D7 d bw) e%4294967296+e+bw=d+4294967296*(D7 (D7 d bw) e/9223372036854775808)/\D7 (D7 d bw) e/9223372036854775808<=1:=by
 rw[PX,PX];omega
theorem Nr {d bw:Nat} (hu:d<4294967296) (hb:bw<=1):D7 d bw%4294967296+bw=d+4294967296*(D7 d bw/9223372036854775808)/\D7 d bw/9223372036854775808<=1:=by
 rw[PX];omega
theorem mM {V Y X p D e bw y7 d:Nat} (h:V+Y=X+p*bw) (hd:D+e+bw=d+4294967296*y7):V+p*D+(Y+p*e)=X+p*d+p*4294967296*y7:=by
 have h2:p*D+p*e+p*bw=p*d+p*4294967296*y7:=by
  rw[<-Nat.mul_add,<-Nat.mul_add,hd,Nat.mul_add,Nat.mul_assoc]
 omega
theorem QP {a b:Nat} (ha:a<4294967296) (hb:b<4294967296):a*b<=18446744065119617025 :=
 Nat.mul_le_mul (show a<=4294967295 by omega) (show b<=4294967295 by omega)
theorem dS {X Y s:Nat} (hs:0<s):X*s/(Y*s)=X/Y/\X*s%(Y*s)/s=X%Y:=by
 refine ⟨Nat.mul_div_mul_right X Y hs,?_⟩;rw[Nat.mul_mod_mul_right,Nat.mul_div_cancel _ hs]
end Go.c4
