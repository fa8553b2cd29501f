/-
  The walk by computation is sound: calls, regions, code, loops, functions.
-/
import Derived.Test.YthgjfcjecnmflaaGreatB6
import Derived.Test.YthgjfcjecnmflaaGreatB2
set_option linter.unusedSimpArgs false
set_option linter.unusedVariables false
set_option linter.unnecessarySimpa false
namespace Go.e9
section
variable {σ:FU} {tm:Tm} {M:Mem} {st:St} {L:Lib} {c5:List Nat}
theorem oO {own:AH} {q:Bool} {d:Nat} : ∀ {e:List AV},E5 e=true->e.mapM (snap own q d)=some e
 | [],_=>rfl
 | v::r,h=>by
  have hv:snap own q d v=some v/\E5 r=true:=by
   cases v<;>simp only[E5]at h<;>first|cases h|exact ⟨by cases d<;>rfl,h⟩
  rw[List.mapM_cons,hv.1,oO hv.2];rfl
theorem oQ {own:AH} {q:Bool} {d:Nat} : ∀ {e:List AV},LC e=true->e.mapM (snap own q d)=some (e.map nl)
 | [],_=>rfl
 | v::r,h=>by
  have hv:snap own q d v=some (nl v)/\LC r=true:=by
   cases v<;>simp only[LC]at h<;>first|cases h|exact ⟨by cases d<;>rfl,h⟩
  rw[List.mapM_cons,hv.1,oQ hv.2];rfl
theorem oP {own:AH} {q:Bool} {d:Nat} : ∀ {es:List (List AV)},(∀ e∈es,LC e=true)->es.mapM (λ cs:List AV=>cs.mapM (snap own q d))=some (es.map λ e=>e.map nl)
 | [],_=>rfl
 | e::r,h=>by
  rw[List.mapM_cons,oQ (h e List.mem_cons_self),oP λ x hx=>h x (List.mem_cons_of_mem _ hx)];rfl
theorem oN {own:AH} {q:Bool} {d:Nat} : ∀ {es:List (List AV)},(∀ e∈es,E5 e=true)->es.mapM (λ cs:List AV=>cs.mapM (snap own q d))=some es
 | [],_=>rfl
 | e::r,h=>by
  rw[List.mapM_cons,oO (h e List.mem_cons_self),oN λ x hx=>h x (List.mem_cons_of_mem _ hx)];rfl
theorem qH (hs:JS σ st.own M) {q:Bool} {v:AV} {K:AV->Prop} (h:O0 q M c5 v K) : ∃ v',(∀ d,snap (st.own.m7 c5) q (d+1) (A8 σ v)=some v')/\K v'/\v ≠ .any/\BT σ v=A8 σ v:=by
 cases v with
 | row key t z off len =>
  have fin : ∀ (z':Nat) (es:List (List AV)),((st.own.m7 c5) (σ key t).1).e6 (σ key t).2=some ⟨z',es⟩->z=z'->A4 es off len (λ es=>K (.sl q es)) -> ∃ v',(∀ d,snap (st.own.m7 c5) q (d+1) (A8 σ (.row key t z off len))=some v')/\K v'/\AV.row key t z off len ≠ .any/\BT σ (.row key t z off len)=A8 σ (.row key t z off len):=by
   intro z' es hb hz h;subst hz;obtain ⟨h1,h2,h3⟩:=h;refine ⟨_,λ d => ?_,h3,(by intro e;cases e),rfl⟩;simp only[A8,snap,EJ,AH.get,hb];rw[if_pos ⟨h1,trivial⟩];simp only;rw[oP λ e he=>h2 e (List.mem_of_mem_drop (List.mem_of_mem_take he))];rfl
  simp only[O0]at h;split at h
  ·rename_i s z' es hm
   split at h
   ·cases hz:Nat.beq z z'<;>simp only[hz,cond_true,cond_false]at h
    cases hb:PN s c5<;>simp only[hb,cond_true,cond_false]at h;refine fin z' es ?_ (BJ.1 hz) h;have y6:=hs.e6 _ _ _ (DS hm);rw[hs.site _ _ _ hm]at y6 ⊢;rw[SN hb];exact y6
   ·exact h.elim
  ·rename_i s rows hm
   split at h
   ·exact h.elim
   ·rename_i i
    split at h
    ·obtain ⟨z',es,g,h⟩:=h
     cases hz:Nat.beq z z'<;>simp only[hz,cond_true,cond_false]at h;exact fin z' es (hs.e6 key (i+1) (.rw z' es) (by simp [c6,hm,g])) (BJ.1 hz) h
    ·rename_i b r
     cases hb:QX (b::r)<;>simp only[hb,cond_true,cond_false]at h;obtain ⟨z',es,g,h⟩:=h;cases hz:Nat.beq z z'<;>simp only[hz,cond_true,cond_false]at h;have g':c6 M key (i+1)=some (.rw z' es):=by simp [c6,hm,g]
     refine fin z' es ?_ (BJ.1 hz) h;rw[bY (hs.low _ _ _ g' rfl) hb];exact hs.e6 key (i+1) (.rw z' es) g'
  ·exact h.elim
 | int k n=>exact ⟨_,λ d=>rfl,h,(by intro e;cases e),rfl⟩
 | bool b=>exact ⟨_,λ d=>rfl,h,(by intro e;cases e),rfl⟩
 | sl l es=>exact ⟨_,λ d=>rfl,h,(by intro e;cases e),rfl⟩
 | bh c=>exact ⟨_,λ d=>rfl,h,(by intro e;cases e),rfl⟩
 | nil=>exact ⟨_,λ d=>rfl,h,(by intro e;cases e),rfl⟩
 | _=>exact (h:False).elim
theorem qG (hs:JS σ st.own M) {q:Bool} : ∀ {l:List AV} {K:List AV->Prop},X8 q M c5 l K -> ∃ l',(∀ d,(l.map (A8 σ)).mapM (snap (st.own.m7 c5) q (d+1))=some l')/\K l'
 | [],K,h=>⟨[],λ d=>rfl,h⟩
 | v::r,K,h=>by
  obtain ⟨v',h1,h2,_⟩:=qH hs (show O0 q M c5 v λ v'=>X8 q M c5 r λ r'=>K (v'::r') from h);obtain ⟨l',h3,h4⟩:=qG hs h2;refine ⟨v'::l',λ d => ?_,h4⟩;rw[List.map_cons,List.mapM_cons,h1 d,h3 d];rfl
theorem qF (hs:JS σ st.own M) {q:Bool} : ∀ {l:List (List AV)} {K:List (List AV)->Prop},dC q M c5 l K -> ∃ l',(∀ d,(l.map λ cs=>cs.map (A8 σ)).mapM (λ cs:List AV=>cs.mapM (snap (st.own.m7 c5) q (d+1)))=some l')/\K l'
 | [],K,h=>⟨[],λ d=>rfl,h⟩
 | v::r,K,h=>by
  obtain ⟨v',h1,h2⟩:=qG hs (show X8 q M c5 v λ v'=>dC q M c5 r λ r'=>K (v'::r') from h);obtain ⟨l',h3,h4⟩:=qF hs h2;refine ⟨v'::l',λ d => ?_,h4⟩;rw[List.map_cons,List.mapM_cons,h1 d,h3 d];rfl
theorem cR {own:AH} {q:Bool} {d:Nat} {k:Nat} : ∀ {rows:List (Option (Nat × List (List AV)))} {i:Nat},(∀ j z es,rows[j]? = some (some (z,es))->(own (σ k (i+j+1)).1).e6 (σ k (i+j+1)).2=some ⟨z,es⟩ /\ ∀ e∈es,E5 e=true) ->
  (B4 σ k i rows).mapM (λ cs:List AV=>cs.mapM (snap own q (d+1)))=some (PS q rows)
 | [],i,h=>rfl
 | none::r,i,h=>by
  rw[B4,List.mapM_cons,cR (i:=i+1) λ j z es hj=>by
   have:=h (j+1) z es (by simpa using hj)
   rwa [show i+(j+1)+1=i+1+j+1 by omega]at this]
  rfl
 | some (z,es)::r,i,h=>by
  rw[B4,List.mapM_cons,cR (i:=i+1) λ j z es hj=>by
   have:=h (j+1) z es (by simpa using hj)
   rwa [show i+(j+1)+1=i+1+j+1 by omega]at this]
  obtain ⟨h1,h2⟩:=h 0 z es rfl;have:snap own q (d+1) (.row (σ k (i+1)).1 (σ k (i+1)).2 z 0 es.length)=some (.sl q es):=by
   simp only[snap,EJ,AH.get];rw[show (own (σ k (i+1)).1).e6 (σ k (i+1)).2=some ⟨z,es⟩ from h1];simp only[Nat.zero_add,Nat.le_refl,and_self,if_true,List.drop_zero];rw[zT (Nat.le_refl _),oN h2];rfl
  rw[List.mapM_cons,this];rfl
theorem qE (hs:JS σ st.own M) {q:Bool} {v:AV} {K:AV->Prop} (h:RA q M c5 v K) : ∃ v',snap (st.own.m7 c5) q 6 (A8 σ v)=some v'/\K v'/\v ≠ .any/\BT σ v=A8 σ v/\C0 (st.own.m7 c5) q (A8 σ v)=some v':=by
 have pj:O0 q M c5 v K -> ∃ v',snap (st.own.m7 c5) q 6 (A8 σ v)=some v'/\K v'/\v ≠ .any/\BT σ v=A8 σ v/\C0 (st.own.m7 c5) q (A8 σ v)=some v':=by
  intro h;obtain ⟨v',h1,h2,h3,h4⟩:=qH hs h;refine ⟨v',h1 5,h2,h3,h4,?_⟩;have:=h1 5
  cases v<;>first|exact this|exact (h:False).elim
 unfold RA at h;split at h
 ·rename_i key z off len
  split at h
  ·rename_i s z' es hm
   cases hz:Nat.beq z z'<;>simp only[hz,cond_true,cond_false]at h;cases hb:PN s c5<;>simp only[hb,cond_true,cond_false]at h;cases ho:Nat.beq off 0<;>simp only[ho,cond_true,cond_false]at h;obtain rfl:=BJ.1 hz;obtain rfl:=BJ.1 ho;obtain ⟨rfl,h⟩:=h;obtain ⟨l',h1,h2⟩:=qF hs h;have y6:=hs.e6 _ _ _ (DS hm);rw[hs.site _ _ _ hm]at y6;have key:snap (st.own.m7 c5) q 6 (A8 σ (.row key 0 z 0 es.length))=some (.sl q l'):=by
    simp only[A8,snap,EJ,AH.get,hs.site _ _ _ hm];rw[SN hb,y6];simp only[A7.e6,Nat.zero_add,List.length_map,Nat.le_refl,and_self,if_true,List.drop_zero];rw[zT (by simp),h1 4];rfl
   exact ⟨_,key,h2,(by intro e;cases e),rfl,key⟩
  ·rename_i s rows hm
   split at h
   ·cases hz:Nat.beq z 1<;>simp only[hz,cond_true,cond_false]at h
    obtain rfl:=BJ.1 hz;obtain ⟨rfl,rfl,h1,h2⟩:=h;have y6:=hs.e6 _ _ _ (DS hm);have key:snap (st.own.m7 []) q 6 (A8 σ (.row key 0 1 0 rows.length))=some (.sl q (PS q rows)):=by
     simp only[A8,snap,EJ,AH.get,AH.m7];rw[y6];simp only[A7.e6,Nat.zero_add,E4,Nat.le_refl,and_self,if_true,List.drop_zero];rw[zT (by rw[E4];exact Nat.le_refl _),cR (i:=0) λ j z es hj=>⟨by
      have:=hs.e6 key (j+1) (.rw z es) (by simp [c6,hm,hj])
      simpa [A7.e6] using this,h1 z es (zM hj)⟩]
     rfl
    exact ⟨_,key,h2,(by intro e;cases e),rfl,key⟩
   ·exact h.elim
  ·exact pj h
 ·exact pj h
theorem qI (hs:JS σ st.own M) {q:Bool} : ∀ {l:List AV} {K:List AV->Prop},dD q M c5 l K -> ∃ l',(l.map (A8 σ)).mapM (snap (st.own.m7 c5) q 6)=some l'/\K l'
 | [],K,h=>⟨[],rfl,h⟩
 | v::r,K,h=>by
  obtain ⟨v',h1,h2,_⟩:=qE hs (show RA q M c5 v λ v'=>dD q M c5 r λ r'=>K (v'::r') from h);obtain ⟨l',h3,h4⟩:=qI hs h2;refine ⟨v'::l',?_,h4⟩;rw[List.map_cons,List.mapM_cons,h1,h3];rfl
theorem X7 (hs:JS σ st.own M) {q:Bool} {v:AV} {K:AV->Prop} (h:N9 q M c5 v K) : ∃ v',C0 (st.own.m7 c5) q (BC σ v)=some v'/\K v'/\v ≠ .any/\BC σ v=BT σ v:=by
 cases v with
 | agg cs =>
  simp only[N9]at h;obtain ⟨l',h1,h2⟩:=qI hs h;refine ⟨.agg l',?_,h2,(by intro e;cases e),rfl⟩;simp only[IB,C0,h1,Option.map_some]
 | j4 vs=>exact (h:False).elim
 | fn p f g cs=>exact (h:False).elim
 | any=>exact (h:False).elim
 | _ =>
  simp only[N9]at h;obtain ⟨v',h1,h2,h3,h4,h5⟩:=qE hs h;exact ⟨v',h5,h2,h3,rfl⟩
theorem YA (hr:RX σ tm M st) : ∀ {xs:List AP} {K:List AV->Prop},U8 tm M c5 xs K -> ∃ vs,(xs.map st.ev).mapM (C0 (st.own.m7 c5) true)=some vs/\K vs
 | [],K,h=>⟨[],rfl,h⟩
 | x::r,K,h=>by
  obtain ⟨v',h1,h2,h3,_⟩:=X7 hr.sat (show N9 true M c5 (ex tm x) λ v=>U8 tm M c5 r λ vs=>K (v::vs) from h);obtain ⟨l',h4,h5⟩:=YA hr h2;refine ⟨v'::l',?_,h5⟩;rw[List.map_cons,List.mapM_cons,hr.ev rfl h3,h1,h4];rfl
theorem Vv (hs:JS σ st.own M) {v:AV} {K:AV->Prop} (h:X9 M c5 v K) : ∃ v',OA (st.own.m7 c5) true (BC σ v)=some v'/\K v'/\v ≠ .any/\BC σ v=BT σ v:=by
 cases v with
 | nil=>exact ⟨.nil,rfl,h,(by intro e;cases e),rfl⟩
 | _ =>
  simp only[X9]at h;obtain ⟨v',h1,h2,h3,h4⟩:=X7 hs h;exact ⟨v',h1,h2,h3,h4⟩
theorem qJ (hr:RX σ tm M st) : ∀ {xs:List AP} {K:List AV->Prop},dE tm M c5 xs K -> ∃ vs,(xs.map st.ev).mapM (OA (st.own.m7 c5) true)=some vs/\K vs
 | [],K,h=>⟨[],rfl,h⟩
 | x::r,K,h=>by
  obtain ⟨v',h1,h2,h3,_⟩:=Vv hr.sat (show X9 M c5 (ex tm x) λ v=>dE tm M c5 r λ vs=>K (v::vs) from h);obtain ⟨l',h4,h5⟩:=qJ hr h2;refine ⟨v'::l',?_,h5⟩;rw[List.map_cons,List.mapM_cons,hr.ev rfl h3,h1,h4];rfl
theorem T6 (hr:RX σ tm M st) : ∀ {xs:List AP} {K:List AV->Prop},SC tm xs K -> ∃ vs,xs.map st.ev=vs.map (BC σ)/\K vs
 | [],K,h=>⟨[],rfl,h⟩
 | x::r,K,h=>by
  obtain ⟨h1,h2⟩:=W4 (show fV (ex tm x) λ v=>SC tm r λ vs=>K (v::vs) from h);obtain ⟨vs,h3,h4⟩:=T6 hr h2;exact ⟨ex tm x::vs,by rw[List.map_cons,List.map_cons,hr.ev rfl h1,h3],h4⟩
theorem gL {v:AV} (h:A6 v):A8 σ v=v:=by
 cases v<;>first|rfl|(simp only[A6]at h)
theorem gJ : ∀ {l:List AV},C6 l->l.map (A8 σ)=l
 | [],_=>rfl
 | v::r,h=>by
  simp only[C6]at h;rw[List.map_cons,gL h.1,gJ h.2]
theorem gM {v:AV} (h:A6 v):BT σ v=v:=by
 cases v with
 | agg cs=>simp only[A6]at h;simp only[BT,gJ h]
 | fn p f g cs=>simp only[A6]at h
 | _=>exact gL (σ:=σ) h
theorem gK : ∀ {l:List AV},C6 l->l.map (BT σ)=l
 | [],_=>rfl
 | v::r,h=>by
  simp only[C6]at h;rw[List.map_cons,gM h.1,gK h.2]
theorem ZD {v:AV} (h:A6 v):BC σ v=v:=by
 cases v with
 | j4 cs=>simp only[A6]at h;simp only[BC,gK h]
 | _=>exact gM (σ:=σ) h
theorem pF {I:List AV->Option (AV × AH)} {vs:List AV} {r:AV} (h:H3 I vs=some r):A6 r:=by
 unfold H3 at h;split at h
 ·split at h
  ·split at h
   ·obtain rfl:=Option.some.inj h
    assumption
   ·cases h
  ·cases h
 ·cases h
theorem Ev.clean {f:Nat} {vs:List AV} {r:AV} (h:Ev L f vs r):A6 r:=by
 obtain ⟨n,h⟩:=h;unfold GX JZ at h;split at h
 ·split at h
  ·rename_i r1 r2 h1 h2
   split at h
   ·obtain rfl:=Option.some.inj h
    exact pF h1
   ·cases h
  ·cases h
 ·exact pF h
theorem RX.put (h:RX σ tm M st) (d:Nat) {v v':AV} (e:v'=BC σ v):RX σ ((d,v)::tm) M ⟨gp st.tm d v',st.own⟩:=by
 refine ⟨λ j => ?_,h.sat⟩;simp only[tg,VJ];cases hb:Nat.beq j d
 ·rw[if_neg (FM.1 hb)];exact h.tm j
 ·rw[if_pos (BJ.1 hb)];exact Or.inr e
theorem oR : ∀ {cs:List AV},US cs=true->cs.map (BC σ)=cs.map (A8 σ)
 | [],_=>rfl
 | v::r,h=>by
  simp only[US]at h;cases hv:cA v<;>simp only[hv,cond_true,cond_false]at h
  ·cases h
  ·rw[List.map_cons,List.map_cons,oR h]
   cases v<;>first|rfl|(simp [cA]at hv)
theorem Mq {v:AV} (h:GC v=true):A8 σ v=v:=by cases v<;>first|rfl|(simp [GC]at h)
theorem iV : ∀ {cs:List AV},cs.all GC=true->cs.map (A8 σ)=cs
 | [],_=>rfl
 | c::r,h=>by
  simp only[List.all_cons,Bool.and_eq_true]at h;rw[List.map_cons,Mq h.1,iV h.2]
theorem iW : ∀ {vs:List AV},vs.all dq=true->vs.map (BC σ)=vs
 | [],_=>rfl
 | v::r,h=>by
  simp only[List.all_cons,Bool.and_eq_true]at h;rw[List.map_cons,iW h.2];congr 1;cases v with
  | agg cs=>simp only[BC,BT,iV (show cs.all GC=true from h.1)]
  | _=>first|rfl|(simp [dq,GC]at h)
theorem Qx {r:AV} (hc:A6 r) (hf:JR r):BC σ (tt r)=tt r:=by
 cases r with
 | agg cs =>
  simp only[tt,BC,BT];congr 1;rw[List.map_map];refine List.map_congr_left λ c qa => ?_
  have:=hf c qa
  cases c<;>first|rfl|exact this.elim
 | _=>first|rfl|exact hf.elim
theorem Qu {c:AV} (h:A6 c):A8 σ (HA c)=HA c:=by
 cases c<;>first|(simp only[HA,A8];done)|(simp only[A6]at h;done)
theorem Qv {r:AV} (h:A6 r) (hd:RM r):BC σ (N4 r)=N4 r:=by
 cases r with
 | agg cs =>
  simp only[A6]at h;have : ∀ cs:List AV,C6 cs->(KN cs).map (A8 σ)=KN cs:=by
   intro cs;induction cs with
   | nil=>intro _;simp [KN]
   | cons c l ih =>
    intro h;simp only[C6]at h;rw[KN,List.map_cons,ih h.2,Qu h.1]
  simp only[N4,BC,BT,this cs h]
 | j4=>exact hd.elim
 | fn=>exact hd.elim
 | _=>first|(simp only[N4,HA,BC,BT,A8];done)|(simp only[A6]at h;done)
theorem Qw {r:AV} (h:A6 r) (hd:JR r\/RM r):BC σ (KO r)=KO r:=by
 by_cases hf:JR r
 ·rw[bF hf];exact Qx h hf
 ·rw[nF hf];exact Qv h (hd.resolve_left hf)
theorem mI : ∀ {l:List AV},W6 l=true->l.map (BC σ)=l
 | [],_=>rfl
 | .int _ _::r,h=>by
  rw[List.map_cons,mI (l:=r) h];rfl
theorem vH {K:AV->Mem->Prop} (hr:RX σ tm M st) {op:DT} (h:XE L tm M c5 K op):BU L tm c5 K op st\/(∃ f xs,op = .call f xs)\/(∃ f xs,op = .e8 f xs)\/(∃ x xs,op = .o0 x xs)\/(∃ f xs,op = .l9 f xs)\/(∃ s f xs,op = .m6 s f xs) \/ ∃ s f xs,op = .bg s f xs:=by
 cases op with
 | call f xs=>exact Or.inr (Or.inl ⟨_,_,rfl⟩)
 | e8 f xs=>exact Or.inr (Or.inr (Or.inl ⟨_,_,rfl⟩))
 | o0 x xs=>exact Or.inr (Or.inr (Or.inr (Or.inl ⟨_,_,rfl⟩)))
 | l9 f xs=>exact Or.inr (Or.inr (Or.inr (Or.inr (Or.inl ⟨_,_,rfl⟩))))
 | m6 s f xs=>exact Or.inr (Or.inr (Or.inr (Or.inr (Or.inr (Or.inl ⟨_,_,_,rfl⟩)))))
 | bg s f xs=>exact Or.inr (Or.inr (Or.inr (Or.inr (Or.inr (Or.inr ⟨_,_,_,rfl⟩)))))
 | kz s n x v=>exact Or.inl (vT hr h)
 | v9 s z b x y=>exact Or.inl (uX hr h)
 | oi ne x=>exact Or.inl (vJ hr h)
 | bad=>exact (show False from h).elim
 | eu tb x=>exact Or.inl (vR hr h)
 | mh p f xs=>exact Or.inl (vN hr h)
 | a9 x=>exact Or.inl (vP hr h)
 | ah s z=>exact Or.inl (vV hr h)
 | pick c a b=>exact Or.inl (vQ hr h)
 | bin o x y=>exact Or.inl (uZ hr h)
 | beq ne x y=>exact Or.inl (uY hr h)
 | un o x=>exact Or.inl (vU hr h)
 | conv k x=>exact Or.inl (vD hr h)
 | box s x=>exact Or.inl (vA hr h)
 | alloc s z=>exact Or.inl (uT hr h)
 | build z ps=>exact Or.inl (vC hr h)
 | c4 s z ps=>exact Or.inl (vB hr h)
 | a5 x o=>exact Or.inl (vF hr h)
 | lg x o n a=>exact Or.inl (vG hr h)
 | a7 a z x i=>exact Or.inl (vI hr h)
 | ld a n x=>exact Or.inl (vK hr h)
 | st n x v=>exact Or.inl (eU hr h)
 | mk s z b ze l c=>exact Or.inl (vM hr h)
 | ew z x lo hi=>exact Or.inl (vS hr h)
 | ext x i=>exact Or.inl (vE hr h)
 | len x=>exact Or.inl (vL hr h)
 | mm m xs=>exact Or.inl (vO hr h)
 | app s z b x y=>exact Or.inl (uU hr h)
theorem YZ {K:AV->Mem->Prop} (hr:RX σ tm M st) {op:DT} {d:Option Nat} {g:Option (Nat × Bool)} {l:List AI} {k:List It} {Q:St->Prop} (h:XE L tm M c5 K op) (hg:FH st g=some true)
  (hk : ∀ σ' v v' M' l8,K v M'->v'=BC σ' v->RX σ' tm M' ⟨st.tm,l8⟩->AO L l k ⟨((⟨st.tm,l8⟩:St).dst d v').tm,l8⟩ Q):AO L (⟨d,op,g,c5⟩::l) k st Q:=by
 rcases vH hr h with ⟨E,σ',v,M',h1,h2,h3,h4⟩|⟨f,xs,rfl⟩|⟨f,xs,rfl⟩|⟨x,xs,rfl⟩|⟨f,xs,rfl⟩|⟨s,f,xs,rfl⟩|⟨s,f,xs,rfl⟩
 ·rw[tM hg h1,Y5]
  have:=hk σ' v _ M' _ h2 h3 h4
  cases d<;>exact this
 ·simp only[XE]at h
  obtain ⟨vs,h1,r,h2,h3⟩:=YA hr h;rw[sX hg h1 h2];have:=hk σ r r M st.own h3 (ZD h2.clean).symm hr
  cases d<;>exact this
 ·simp only[XE]at h
  obtain ⟨vs,h1,h2⟩:=T6 hr h;obtain ⟨r,l8,σ',M',h3,h4,h5,h6⟩:=h2 σ st.own hr.sat;rw[<-h1]at h3;rw[sZ hg h3];have:=hk σ' r _ M' l8 h6 rfl ⟨λ j=>by rw[h5 j];exact hr.tm j,h4⟩
  cases d<;>exact this
 ·simp only[XE]at h
  split at h
  ·rename_i f g' e1
   obtain ⟨h0,h⟩:=h;obtain ⟨vs,h1,r,h2,h3⟩:=YA hr h;have e2:=hr.ev e1 (by intro e;cases e);rw[X6,List.map_nil,h0]at e2;rw[tE hg e2 h1 h2];have:=hk σ r r M st.own h3 (ZD h2.clean).symm hr
   cases d<;>exact this
  ·rename_i f g' c cs e1
   obtain ⟨h0,h⟩:=h;obtain ⟨v',h1,h,_,_⟩:=X7 hr.sat h;obtain ⟨vs,h2,r,h3,h4⟩:=YA hr h;have e2:=hr.ev e1 (by intro e;cases e);rw[X6,h0]at e2;have h5:(AV.agg (c::cs |>.map (A8 σ))::xs.map st.ev).mapM (C0 st.own true)=some (v'::vs):=by
    rw[List.mapM_cons,show C0 st.own true (AV.agg (c::cs |>.map (A8 σ)))=some v' from h1,show (xs.map st.ev).mapM (C0 st.own true)=some vs from h2];rfl
   rw[sY hg e2 h5 h3];have:=hk σ r r M st.own h4 (ZD h3.clean).symm hr
   cases d<;>exact this
  ·rename_i f g' cs e1
   cases ho:US cs<;>simp only[ho,cond_true,cond_false]at h;obtain ⟨h0,h⟩:=h;obtain ⟨vs,h1,h2⟩:=T6 hr h;rw[G8]at h2;obtain ⟨r,l8,σ',M',h3,h4,h5,h6⟩:=h2 σ st.own hr.sat;rw[List.map_append,<-h1,oR (σ:=σ) ho]at h3;have e2:=hr.ev e1 (by intro e;cases e);rw[X6,h0]at e2;rw[tH hg e2 h3];have:=hk σ' r _ M' l8 h6 rfl ⟨λ j=>by rw[h5 j];exact hr.tm j,h4⟩
   cases d<;>exact this
  ·exact h.elim
 ·simp only[XE]at h
  obtain ⟨vs,h1,h2⟩:=T6 hr h;cases ho:vs.all dq<;>simp only[ho,cond_true,cond_false]at h2;obtain ⟨r,h3,h4,h5⟩:=h2;have e1:xs.map st.ev=vs:=by rw[h1];exact iW ho
  rw[tF hg (by rw[e1];exact ho) (by rw[e1];exact h3) h4];have:=hk σ (KO r) (KO r) M st.own h5 (Qw h3.clean h4).symm hr
  cases d<;>exact this
 ·simp only[XE]at h
  cases Aq:EU s<;>simp only[Aq,cond_true,cond_false]at h;obtain ⟨vs,h1,z,es,n,h2,rfl,h3⟩:=qJ hr h;obtain ⟨k',g1,g2,g3⟩:=GU h3;refine tG hg h1 h2 ?_;rw[Y5];have:=hk (C8 σ k' λ_=>(s,st.own.g8 s)) _ (.row s (st.own.g8 s) z 0 es.length) _ _ g3 (by simp only[DC,BV]) (hr.da (q:=s) g1 g2 (.rw z es) trivial rfl (λ_=>Aq))
  cases d<;>exact this
 ·simp only[XE]at h
  obtain ⟨vs,h1,h2⟩:=T6 hr h;split at h2
  ·rename_i key rest
   cases hi:W6 rest<;>simp only[hi,cond_true,cond_false]at h2;obtain ⟨cells,eb,kd,n,g1,g2,g3,g4,g5⟩:=h2;have dp:=hr.sat.site _ _ _ g1;have y6:=hr.sat.e6 _ _ _ (DS g1);rw[dp]at y6;simp only[A7.e6,II g2]at y6;have bf:xs.map st.ev = .ptr s (σ key 0).2 0 0::rest:=by
    rw[h1,List.map_cons,EC,dp,mI hi]
   have hE:=g4 (σ key 0).2 (st.own s) y6;refine tJ hg (by rw[bf];exact hE) ?_;rw[Y5];have:=hk σ (.int kd n) (.int kd n) _ _ g5 rfl (hr.Hi g1 trivial (.bx eb) trivial (λ h=>by cases h))
   simp only[A7.e6,II g3]at this;cases d<;>exact this
  ·exact h2.elim
theorem Og (hr:RX σ tm M st) {g:Nat} {w:Bool} {b:Bool} (e:tg tm g = .bool b):FH st (some (g,w))=some (b == w):=by
 rcases hr.tm g with h|h
 ·rw[e]at h;cases h
 ·rw[e]at h
  simp only[FH,h,G0]
theorem Oh (hr:RX σ tm M st) {g:Nat} {w:Bool} (e:tg tm g = .j4 []):FH st (some (g,w))=some false:=by
 rcases hr.tm g with h|h
 ·rw[e]at h;cases h
 ·rw[e]at h
  simp only[FH,h,IC,List.map_nil]
theorem dM {key:Nat} : ∀ (tm:Tm) (j:Nat),tg (zj key tm) j = .any\/tg (zj key tm) j=tg tm j
 | [],_=>Or.inl rfl
 | (i,v)::r,j=>by
  simp only[zj];cases hc:PA key v<;>cases hb:Nat.beq j i;all_goals simp only[cond_true,cond_false,tg,hb]
  ·exact dM r j
  ·exact Or.inr trivial
  ·exact dM r j
  ·exact Or.inl trivial
theorem Vg {v:AV} {K:Tm->Prop} (h:xk v tm K) : ∃ ag,(∀ j,tg ag j = .any\/tg ag j=tg tm j)/\K ag:=by
 unfold xk at h;split at h
 ·rw[T9]at h
  exact ⟨_,λ j=>dM _ j,h⟩
 ·exact ⟨_,λ j=>Or.inr rfl,h⟩
theorem fA {k:List It} {Q:Tm->Mem->Prop} : ∀ {l:List AI} {K:Tm->Mem->Prop} {tm:Tm} {M:Mem},XO L l K tm M->(∀ ag M',K ag M'->AA L k ag M' Q)->dZ L l k tm M Q
 | [],K,tm,M,h,hk=>λ σ st hr=>tK.2 (hk tm M h σ st hr)
 | o::l,K,tm,M,h,hk=>by
  intro σ st hr;have h:XI L o (XO L l) K tm M:=h;have ih : ∀ ag M',XO L l K ag M'->dZ L l k ag M' Q:=λ ag M' h'=>fA h' hk
  have some_ : ∀ (d:Nat) (op:DT) (g:Option (Nat × Bool)) (c5:List Nat),FH st g=some true->XE L tm M c5 (λ v M=>XO L l K ((d,v)::tm) M) op->AO L (⟨some d,op,g,c5⟩::l) k st (SQ Q):=by
   intro d op g c5 hg hx;refine YZ hr hx hg ?_;intro σ' v v' M' l8 h1 h2 h3;exact ih _ _ h1 σ' _ (h3.put d h2)
  have xv : ∀ (d:Nat) (u:AV) (op:DT) (c5:List Nat),XE L tm M c5 (λ v M=>xk u tm λ tm=>XO L l K ((d,v)::tm) M) op->AO L (⟨some d,op,none,c5⟩::l) k st (SQ Q):=by
   intro d u op c5 hx;refine YZ hr hx rfl ?_;intro σ' v v' M' l8 h1 h2 h3;obtain ⟨ag,g1,g2⟩:=Vg h1;exact ih _ _ g2 σ' _ ((show RX σ' ag M' ⟨st.tm,l8⟩ from ⟨λ j=>(g1 j).elim Or.inl λ e=>by rw[e];exact h3.tm j,h3.sat⟩).put d h2)
  have none_ : ∀ (op:DT) (g:Option (Nat × Bool)) (c5:List Nat),FH st g=some true->XE L tm M c5 (λ_ M=>XO L l K tm M) op->AO L (⟨none,op,g,c5⟩::l) k st (SQ Q):=by
   intro op g c5 hg hx;refine YZ hr hx hg ?_;intro σ' v v' M' l8 h1 h2 h3;exact ih _ _ h1 σ' _ h3
  have vj : ∀ (d:Option Nat) (op:DT) (g:Option (Nat × Bool)) (c5:List Nat),FH st g=some false->(match d with|some d=>XO L l K ((d,.j4 [])::tm) M|none=>XO L l K tm M)->AO L (⟨d,op,g,c5⟩::l) k st (SQ Q):=by
   intro d op g c5 hg hx;rw[tL hg];cases d with
   | none=>exact ih _ _ hx σ _ hr
   | some d=>exact ih _ _ hx σ _ (hr.put d rfl)
  obtain ⟨d,op,g,c5⟩:=o;cases g with
  | none =>
   cases d with
   | none=>exact none_ op none c5 rfl h
   | some d =>
    cases op with
    | app s z b x y=>exact xv d (ex tm x) (.app s z b x y) c5 h
    | _=>exact some_ d _ none c5 rfl h
  | some gw =>
   obtain ⟨g,w⟩:=gw;have h:(match tg tm g with
    | .bool b=>fB (b == w) λ c=>match c,d with
     | true,some d=>XE L tm M c5 (λ v M=>XO L l K ((d,v)::tm) M) op
     | true,none=>XE L tm M c5 (λ_ M=>XO L l K tm M) op
     | false,some d=>XO L l K ((d,.j4 [])::tm) M
     | false,none=>XO L l K tm M
    | .j4 []=>match d with
     | some d=>XO L l K ((d,.j4 [])::tm) M
     | none=>XO L l K tm M
    | _=>False):=by cases d<;>cases op<;>exact h
   split at h
   ·rename_i b e
    rw[PG]at h;have hg:=Og hr (w:=w) e;cases hb:(b == w)<;>rw[hb]at h hg
    ·exact vj d op _ c5 hg (by cases d<;>exact h)
    ·cases d with
     | none=>exact none_ op _ c5 hg h
     | some d=>exact some_ d op _ c5 hg h
   ·rename_i e
    exact vj d op _ c5 (Oh hr e) (by cases d<;>exact h)
   ·exact h.elim
theorem eV {Q:Tm->Mem->Prop} : ∀ {n:Nat} {k:List It} {tm:Tm} {M:Mem},XK L Q n k tm M->AA L k tm M Q
 | 0,k,tm,M,h=>h
 | n+1,[],tm,M,h=>λ σ st hr=>sR.2 ⟨σ,tm,M,hr,h⟩
 | n+1,it::k,tm,M,h=>by
  have h:XS L Q (XK L Q n) (it::k) tm M:=h;have ih : ∀ k tm M,XK L Q n k tm M->AA L k tm M Q:=λ k tm M h=>eV h
  intro σ st hr;cases it with
  | e6 id=>exact sJ.2 (ih _ _ _ h σ st hr)
  | lf ts ss =>
   simp only[XS,Nv,T9]at h;cases ss with
   | cons s r=>exact h.elim
   | nil =>
    refine sN.2 (ih _ _ _ h σ _ ⟨λ j => ?_,hr.sat⟩);rw[VG,SZ,fR,Y8,Bool.false_or];cases hc:ts.contains j
    ·simp only[Bool.false_eq_true,if_false,cond_false]
     exact hr.tm j
    ·exact Or.inl rfl
  | lp c=>exact h σ st hr
  | code c =>
   cases c with
   | skip=>exact sW.2 (ih _ _ _ h σ st hr)
   | ops l d=>exact sS.2 (fA h (λ ag M' h'=>ih _ _ _ h') σ st hr)
   | dr c ts ss=>exact sM.2 (ih _ _ _ h σ st hr)
   | scope c=>exact sU.2 (ih _ _ _ h σ st hr)
   | seq a b=>exact sV.2 (ih _ _ _ h σ st hr)
   | cond x a b =>
    simp only[XS]at h;split at h
    ·rename_i b' e
     rw[PG]at h;rw[sL (hr.ev e (by intro e;cases e))];cases b'
     ·simpa using ih _ _ _ h σ st hr
     ·simpa using ih _ _ _ h σ st hr
    ·exact h.elim
   | block id c=>exact sK.2 (ih _ _ _ h σ st hr)
   | loop c=>exact sP.2 (dY.1 (h σ st hr))
   | exit id =>
    simp only[XS]at h;split at h
    ·rename_i k' e
     exact (sO e).2 (ih _ _ _ h σ st hr)
    ·exact h.elim
   | ret=>exact sT.2 ⟨σ,tm,M,hr,h⟩
theorem Td (hr:RX σ tm M st) {r:IV} {K:AV->Prop} (h:Q3 tm M r K) : ∃ v,E6 st r=some (BC σ v)/\K v/\BC σ v=BT σ v:=by
 cases r with
 | tmp t =>
  simp only[Q3]at h;obtain ⟨h1,h2,h3⟩:=kU (σ:=σ) h;refine ⟨_,?_,h3,h2⟩;rcases hr.tm t with e|e
  ·exact absurd e h1
  ·simp only[E6,e]
   cases hv:tg tm t<;>rw[hv]at h h1<;>first|rfl|exact (h:False).elim
 | cell t agg n =>
  simp only[Q3]at h;split at h
  ·rename_i key i j e
   split at h
   ·rename_i s cs hm
    cases hi:Nat.beq i 0<;>simp only[hi,cond_true,cond_false]at h;obtain rfl:=BJ.1 hi;split at h
    ·rename_i ds hp
     rw[G8]at h;rcases hr.tm t with e'|e'
     ·rw[e]at e';cases e'
     ·have hs:=hr.sat.site _ _ _ hm
      have y6:=hr.sat.e6 _ _ _ (DS hm);rw[hs]at y6;have flat : ∀ v,JY agg (ds.map (A8 σ))=some (BC σ v)->E6 st (.cell t agg n)=some (BC σ v):=by
       intro v hv;simp only[E6,e',e,EC,AH.nc,AH.get,hs,y6,A7.e6,List.getElem?_cons_zero,XU hp,hv]
      cases agg
      ·simp only[nr]at h
       split at h
       ·rename_i c
        obtain ⟨_,h1,h2⟩:=kV (σ:=σ) h;refine ⟨c,flat c (by rw[h1];rfl),h2,?_⟩;rw[h1];cases c<;>first|rfl|exact (h:False).elim
       ·exact h.elim
      ·exact ⟨.agg ds,flat _ rfl,h,rfl⟩
    ·exact h.elim
   ·exact h.elim
  ·exact h.elim
theorem cO (hr:RX σ tm M st) : ∀ {l:List IV} {K:List AV->Prop},XY tm M l K -> ∃ vs,l.mapM (E6 st)=some (vs.map (BC σ))/\K vs/\vs.map (BC σ)=vs.map (BT σ)
 | [],K,h=>⟨[],rfl,h,rfl⟩
 | r::l,K,h=>by
  obtain ⟨v,h1,h2,h3⟩:=Td hr (show Q3 tm M r λ v=>XY tm M l λ vs=>K (v::vs) from h);obtain ⟨vs,h4,h5,h6⟩:=cO hr h2;exact ⟨v::vs,by rw[List.mapM_cons,h1,h4];rfl,h5,by rw[List.map_cons,List.map_cons,h3,h6]⟩
theorem qD (hs:JS σ st.own M) {q:Bool} : ∀ {l:List AV} {K:List AV->Prop},dB q M l K -> ∃ l',(l.map (BC σ)).mapM (C0 st.own q)=some l'/\K l' /\ ∀ v∈l,BC σ v=BT σ v
 | [],K,h=>⟨[],rfl,h,λ v hv=>by cases hv⟩
 | v::r,K,h=>by
  obtain ⟨v',h1,h2,_,h0⟩:=X7 hs (show N9 q M [] v λ v'=>dB q M r λ r'=>K (v'::r') from h);obtain ⟨l',h3,h4,h5⟩:=qD hs h2;refine ⟨v'::l',?_,h4,λ u hu => ?_⟩
  ·rw[List.map_cons,List.mapM_cons,show C0 st.own q (BC σ v)=some v' from h1,h3];rfl
  ·rcases List.mem_cons.1 hu with rfl|hu
   ·exact h0
   ·exact h5 u hu
theorem Vy {own:AH} {q:Bool} {v v':AV} (h:C0 own q v=some v'):PT own q v=some v':=by
 cases v with
 | j4 vs=>simp [C0,snap]at h
 | _=>exact h
theorem Rb {f:AV->Option AV} {x y:AV} {r l':List AV} (h:(x::y::r).mapM f=some l') : ∃ a b c,l'=a::b::c:=by
 rw[List.mapM_cons,List.mapM_cons]at h;cases hx:f x with
 | none=>rw[hx]at h;cases h
 | some a =>
  cases hy:f y with
  | none=>rw[hx,hy]at h;cases h
  | some b =>
   cases hr:r.mapM f with
   | none=>rw[hx,hy,hr]at h;cases h
   | some c =>
    rw[hx,hy,hr]at h;exact ⟨a,b,c,(Option.some.inj h).symm⟩
theorem eT {fn:AFn} {r:AV} (hr:RX σ tm M st) (h:NQ fn r tm M):TC fn r st:=by
 unfold NQ at h;obtain ⟨vs,h1,h2,h3⟩:=cO hr h;obtain ⟨l',h4,h5,h6⟩:=qD hr.sat h2;unfold TC;rw[h1,Option.map_some,Option.bind_some];match vs,l',h4,h5 with
 | [],l',h4,h5 =>
  obtain rfl:=Option.some.inj h4;obtain ⟨e,hc⟩:=h5;exact ⟨by rw[<-e];rfl,hc⟩
 | [v],l',h4,h5 =>
  rw[List.map_cons,List.map_nil,List.mapM_cons]at h4;cases hv:C0 st.own false (BC σ v) with
  | none=>rw[hv]at h4;cases h4
  | some v' =>
   rw[hv]at h4;obtain rfl:=Option.some.inj h4;obtain ⟨e,hc⟩:=h5;exact ⟨by rw[<-e];exact Vy hv,hc⟩
 | v::u::w,l',h4,h5 =>
  obtain ⟨a,b,c,rfl⟩:=Rb (show List.mapM (C0 st.own false) (BC σ v::BC σ u::w.map (BC σ))=some l' from h4);obtain ⟨e,hc⟩:=h5;refine ⟨?_,hc⟩;rw[<-e];have h4:List.mapM (C0 st.own false) (BC σ v::BC σ u::w.map (BC σ))=some (a::b::c):=h4;show Option.map AV.j4 (List.mapM (C0 st.own false) (BC σ v::BC σ u::w.map (BC σ)))=_;rw[h4];rfl
def PB:AV->Bool
 | .agg cs=>D7 cs
 | v=>pj v
def IY:List AV->Bool
 | []=>true
 | v::r=>bif PB v then IY r else false
theorem WL {v:AV} (h:PB v=true):BC σ v=v:=by
 cases v with
 | agg cs=>simp only[PB]at h;simp only[BC,BT,II h]
 | _=>first|rfl|cases h
theorem TT {σ:FU} : ∀ {vs:List AV} {i:Nat},IY vs=true -> ∀ j,g6 (CR i vs) j=BC σ (g6 (CR i vs) j)
 | [],_,_,_=>rfl
 | v::r,i,h,j=>by
  simp only[IY]at h;cases hv:PB v<;>simp only[hv,cond_true,cond_false]at h
  ·cases h
  ·simp only[Rn,VI]
   split
   ·exact (WL hv).symm
   ·exact TT h j
theorem FQ.x {f:Nat} {fn:AFn} {vs:List AV} {r:AV} (hL:L f=some fn) (hp:Nat.beq vs.length fn.af=true) (hd:IY vs=true) (h:AA L [.code fn.body] (CR 0 vs) [] (NQ fn r)):FQ L f vs r:=by
 refine FQ.fwd hL (BJ.1 hp) (sQ (h (λ_ _=>(0,0)) ⟨CR 0 vs,AH.emp⟩ ⟨λ j=>Or.inr ?_,?_⟩) ?_)
 ·rw[JL];exact TT hd j
 ·exact ⟨(λ_ _ _ e=>by cases e),(λ_ _ _ e=>by simp [c6,c8]at e),(λ_ _ _ e=>by simp [c6,c8]at e),(λ_ _ _ _ _ _ e=>by simp [c6,c8]at e),(λ_ _ _ e=>by simp [c6,c8]at e)⟩
 ·rintro s ⟨σ,tm,M,hr,hq⟩
  exact eT hr hq
theorem Ev.x {f:Nat} {fn:AFn} {vs:List AV} {r:AV} (hL:L f=some fn) (hp:Nat.beq vs.length fn.af=true) (hd:IY vs=true) (h:AA L [.code fn.body] (CR 0 vs) [] (NQ fn r)) (hs:fn.mj=false:=by rfl):Ev L f vs r:=(FQ.x hL hp hd h).ev hL hs
def FX:List (Nat × Nat)->Nat->Nat
 | [],k=>k
 | (a,b)::r,k=>bif Nat.beq k a then b else FX r k
def X0 (τ:List (Nat × Nat)):AV->AV
 | .row k t z o n => .row (FX τ k) t z o n
 | .ptr k t i j => .ptr (FX τ k) t i j
 | v=>v
def PP (τ:List (Nat × Nat)):List AV->List AV
 | []=>[]
 | v::r=>X0 τ v::PP τ r
def SV (τ:List (Nat × Nat)):AV->AV
 | .agg cs => .agg (PP τ cs)
 | .fn p f g cs => .fn p f g (PP τ cs)
 | v=>X0 τ v
def X2 (τ:List (Nat × Nat)):List AV->List AV
 | []=>[]
 | v::r=>SV τ v::X2 τ r
def X1 (τ:List (Nat × Nat)):AV->AV
 | .j4 cs => .j4 (X2 τ cs)
 | v=>SV τ v
def X3 (τ:List (Nat × Nat)):List (List AV)->List (List AV)
 | []=>[]
 | v::r=>PP τ v::X3 τ r
def JD (τ:List (Nat × Nat)):A7->A7
 | .bx cs => .bx (PP τ cs)
 | .rw z es => .rw z es
 | .bs z es => .bs z (X3 τ es)
 | .mx rows => .mx rows
 | .hx i v rows => .hx i v rows
 | .vw w rows => .vw w rows
variable {τ:List (Nat × Nat)}
theorem U5 : ∀ l:List AV,PP τ l=l.map (X0 τ)
 | []=>rfl
 | v::r=>by rw[PP,U5 r];rfl
theorem pM : ∀ l:List AV,X2 τ l=l.map (SV τ)
 | []=>rfl
 | v::r=>by rw[X2,pM r];rfl
theorem YC (v:AV):A8 (λ k t=>σ (FX τ k) t) v=A8 σ (X0 τ v):=by cases v<;>rfl
theorem dK (v:AV):BT (λ k t=>σ (FX τ k) t) v=BT σ (SV τ v):=by
 cases v with
 | agg cs=>simp only[BT,SV,U5,List.map_map];exact congrArg AV.agg (List.map_congr_left λ v _=>YC v)
 | fn p f g cs=>simp only[BT,SV,U5,List.map_map];exact congrArg (AV.fn p f g) (List.map_congr_left λ v _=>YC v)
 | _=>rfl
theorem Wb (v:AV):BC (λ k t=>σ (FX τ k) t) v=BC σ (X1 τ v):=by
 cases v with
 | j4 cs=>simp only[BC,X1,pM,List.map_map];exact congrArg AV.j4 (List.map_congr_left λ v _=>dK v)
 | agg cs=>exact dK (.agg cs)
 | fn p f g cs=>exact dK (.fn p f g cs)
 | _=>rfl
theorem pN : ∀ l:List (List AV),X3 τ l=l.map (PP τ)
 | []=>rfl
 | v::r=>by rw[X3,pN r];rfl
theorem UP {k:Nat} : ∀ (rows:List (Option (Nat × List (List AV)))) (i:Nat),B4 (λ k t=>σ (FX τ k) t) k i rows=B4 σ (FX τ k) i rows
 | [],i=>rfl
 | none::r,i=>by rw[B4,B4,UP r]
 | some (z,es)::r,i=>by rw[B4,B4,UP r]
theorem wO (c:A7) (k:Nat):c.e6 (λ k t=>σ (FX τ k) t) k=(JD τ c).e6 σ (FX τ k):=by
 cases c with
 | bx cs =>
  simp only[A7.e6,JD,U5,List.length_map,List.map_map];rw[List.map_congr_left λ v _=>YC v];rfl
 | rw z es=>rfl
 | bs z es =>
  simp only[A7.e6,JD,pN,List.map_map];congr 1;refine List.map_congr_left λ cs _ => ?_
  simp only[Function.comp,U5,List.map_map];exact List.map_congr_left λ v _=>YC v
 | mx rows=>simp only[A7.e6,JD,UP]
 | hx i v rows=>simp only[A7.e6,JD,UP]
 | vw w rows=>simp only[A7.e6,JD,UP]
def rb (k s:Nat) (c:A7):Mem->Mem
 | []=>[(k,s,c)]
 | (j,s',c')::r=>bif Nat.beq k j then (k,s,c)::r else (j,s',c')::rb k s c r
def oo:Mem->Mem
 | []=>[]
 | (k,s,c)::r=>rb k s c (oo r)
def UM:Mem->(Mem->Prop)->Prop
 | [],K=>K []
 | (k,s,c)::r,K=>UM r λ r'=>fM (rb k s c r') K
theorem bK : ∀ (M:Mem) (K:Mem->Prop),UM M K=K (oo M)
 | [],_=>rfl
 | (k,s,c)::r,K=>by rw[UM,bK r,KB];rfl
theorem nP (k s:Nat) (c:A7) (j:Nat) : ∀ M:Mem,c8 (rb k s c M) j=bif Nat.beq j k then some (s,c) else c8 M j
 | []=>rfl
 | (i,s',c')::r=>by
  simp only[rb];cases hk:Nat.beq k i
  ·simp only[cond_false,c8,nP k s c j r]
   cases hj:Nat.beq j i<;>cases Za:Nat.beq j k<;>simp only[cond_true,cond_false];exact absurd ((BJ.1 Za).symm.trans (BJ.1 hj)) (FM.1 hk)
  ·obtain rfl:=BJ.1 hk
   simp only[cond_true,c8];cases Nat.beq j k<;>rfl
theorem SJ (j:Nat) : ∀ M:Mem,c8 (oo M) j=c8 M j
 | []=>rfl
 | (k,s,c)::r=>by simp only[oo,nP,SJ j r,c8]
theorem XF (k t:Nat):c6 (oo M) k t=c6 M k t:=by simp only[c6,SJ]
def tu (τ:List (Nat × Nat)) (M:Mem):List (Nat × Nat × A7)->List (Option (Nat × A7))
 | []=>[]
 | (k,_,_)::r=>c8 M (FX τ k)::tu τ M r
def tv (τ:List (Nat × Nat)):List (Nat × Nat × A7)->List (Option (Nat × A7))
 | []=>[]
 | (_,s,c)::r=>some (s,JD τ c)::tv τ r
def Dg (tm:Tm):Tm->List AV
 | []=>[]
 | (j,_)::r=>tg tm j::Dg tm r
def Dh (τ:List (Nat × Nat)):Tm->List AV
 | []=>[]
 | (_,v)::r=>X1 τ v::Dh τ r
def XL:List Nat->Bool
 | []=>true
 | k::r=>bif OV k r then false else XL r
def keys (τ:List (Nat × Nat)):Mem->List Nat
 | []=>[]
 | (k,_,_)::r=>FX τ k::keys τ r
theorem nO : ∀ {M':Mem} {M:Mem},tu τ M M'=tv τ M' -> ∀ k s c,c8 M' k=some (s,c)->c8 M (FX τ k)=some (s,JD τ c)
 | [],_,_,_,_,_,e=>by cases e
 | (i,s',c')::r,M,h,k,s,c,e=>by
  simp only[tu,tv,List.cons.injEq]at h;simp only[c8]at e;cases hb:Nat.beq k i<;>simp only[hb,cond_true,cond_false]at e
  ·exact nO h.2 k s c e
  ·simp only[Option.some.injEq,Prod.mk.injEq]at e
   obtain ⟨rfl,rfl⟩:=e;rw[BJ.1 hb];exact h.1
theorem bM : ∀ {M:Mem} {k s:Nat} {c:A7},c8 M k=some (s,c)->OV (FX τ k) (keys τ M)=true
 | (i,s',c')::r,k,s,c,e=>by
  simp only[c8]at e;simp only[keys,OV];cases hb:Nat.beq k i<;>simp only[hb,cond_true,cond_false]at e
  ·rw[bM e];cases Nat.beq (FX τ k) (FX τ i)<;>rfl
  ·rw[BJ.1 hb];simp
theorem oI : ∀ {M:Mem},XL (keys τ M)=true -> ∀ {k k' s s':Nat} {c c':A7},c8 M k=some (s,c)->c8 M k'=some (s',c')->FX τ k=FX τ k'->k=k'
 | [],_,_,_,_,_,_,_,e,_,_=>by cases e
 | (i,s0,c0)::r,h,k,k',s,s',c,c',e,e',hk=>by
  simp only[keys,XL]at h;cases hm:OV (FX τ i) (keys τ r)<;>simp only[hm,cond_true,cond_false]at h
  ·simp only[c8]at e e'
   cases hb:Nat.beq k i<;>cases k8:Nat.beq k' i<;>simp only[hb,k8,cond_true,cond_false]at e e'
   ·exact oI h e e' hk
   ·obtain rfl:=BJ.1 k8
    have:=bM (τ:=τ) e
    rw[hk,hm]at this;cases this
   ·obtain rfl:=BJ.1 hb
    have:=bM (τ:=τ) e'
    rw[<-hk,hm]at this;cases this
   ·exact (BJ.1 hb).trans (BJ.1 k8).symm
  ·cases h
theorem rE : ∀ {ag:Tm} {tm:Tm},Dg tm ag=Dh τ ag -> ∀ j,tg ag j = .any\/tg tm j=X1 τ (tg ag j)
 | [],_,_,_=>Or.inl rfl
 | (i,v)::r,tm,h,j=>by
  simp only[Dg,Dh,List.cons.injEq]at h;simp only[tg];cases hb:Nat.beq j i<;>simp only[cond_true,cond_false]
  ·exact rE h.2 j
  ·rw[BJ.1 hb];exact Or.inr h.1
def v8 (ts:List Nat) (tm:Tm):Tm:=match ts with
 | []=>tm
 | t::ts=>ry (mask 0 (t::ts)) tm
def JQ (τ:List (Nat × Nat)) (tm:Tm) (M:Mem) (ag:Tm) (M':Mem):Prop :=
 fT (ry 0 ag) λ l=>UM M' λ m=>Dg tm l=Dh τ l/\tu τ M m=tv τ m/\XL (keys τ m)=true
theorem B5 {k:List It} {ag:Tm} {M':Mem} {Q:Tm->Mem->Prop} (τ:List (Nat × Nat)) (he:JQ τ tm M ag M') (h:AA L k ag M' Q):AA L k tm M Q:=by
 unfold JQ at he;rw[T9,bK]at he;obtain ⟨ht,hm,hn⟩:=he;intro σ st hr;have hg : ∀ k s c,c8 M' k=some (s,c)->c8 M (FX τ k)=some (s,JD τ c):=λ k s c e=>nO hm k s c (by rw[SJ];exact e)
 have Al : ∀ k t c,c6 M' k t=some c->c6 M (FX τ k) t=some (JD τ c):=by
  intro k t c e;obtain ⟨s,c0,g1,g2,g3⟩:=H0 e;have:=hg k s c0 g1
  cases t with
  | zero=>rw[g2 rfl];exact DS this
  | succ i =>
   obtain ⟨rows,z,es,(rfl|⟨a,v,rfl⟩)|⟨w,rfl⟩,hr,rfl⟩:=g3 i rfl
   ·simp [c6,this,JD,hr]
   ·simp [c6,this,JD,hr]
   ·simp [c6,this,JD,hr]
 refine h (λ k t=>σ (FX τ k) t) st ⟨λ j => ?_,⟨?_,?_,?_,?_,?_⟩⟩
 ·have:=rE ht j
  rw[VG,Y8,cond_false]at this;rcases this with e|e
  ·exact Or.inl e
  ·rcases hr.tm j with e'|e'
   ·left
    rw[e']at e;cases hv:tg ag j<;>rw[hv]at e<;>first|rfl|cases e
   ·right
    rw[e',e,Wb]
 ·intro k s c e;exact hr.sat.site _ _ _ (hg k s c e)
 ·intro k t c e;rw[wO];exact hr.sat.e6 _ _ _ (Al k t c e)
 ·intro k t c e;exact hr.sat.old _ _ _ (Al k t c e)
 ·intro k t k' t' c c' e e' hk
  obtain ⟨q1,q2⟩:=hr.sat.inj _ _ _ _ _ _ (Al _ _ _ e) (Al _ _ _ e') hk;obtain ⟨s,c0,g,_⟩:=H0 e;obtain ⟨s',c0',g',_⟩:=H0 e';exact ⟨oI hn (by rw[SJ];exact g) (by rw[SJ];exact g') q1,q2⟩
 ·intro k t c e hw
  exact hr.sat.low _ _ _ (Al k t c e) (by cases c<;>exact hw)
theorem B0 {k:List It} {ag:Tm} {M':Mem} {Q:Tm->Mem->Prop} (τ:List (Nat × Nat)) (h:AA L k ag M' Q) (he:JQ τ tm M ag M':=by (conv=>whnf);exact ⟨rfl,rfl,rfl⟩):AA L k tm M Q:=B5 τ he h
theorem sE {k:List It} {Q:Tm->Mem->Prop} (h:AA L k (ry 0 tm) (oo M) Q):AA L k tm M Q:=by
 intro σ st hr;refine h σ st ⟨λ j => ?_,⟨?_,?_,?_,?_,?_⟩⟩
 ·rw[VG,Y8,cond_false];exact hr.tm j
 ·intro k s c e;rw[SJ]at e;exact hr.sat.site _ _ _ e
 ·intro k t c e;rw[XF]at e;exact hr.sat.e6 _ _ _ e
 ·intro k t c e;rw[XF]at e;exact hr.sat.old _ _ _ e
 ·intro k t k' t' c c' e e' hk
  rw[XF]at e e';exact hr.sat.inj _ _ _ _ _ _ e e' hk
 ·intro k t c e hw;rw[XF]at e;exact hr.sat.low _ _ _ e hw
def re (k:Nat) (c:A7):Mem->Mem
 | []=>[]
 | (j,s,c')::r=>bif Nat.beq k j then (j,s,c)::r else (j,s,c')::re k c r
theorem XA {k j s:Nat} {c c':A7} : ∀ {M:Mem},c8 (re k c M) j=some (s,c') -> ∃ c0,c8 M j=some (s,c0)/\(c0=c'\/(j=k/\c'=c))
 | [],e=>by cases e
 | (i,s0,c0)::r,e=>by
  simp only[re]at e;cases hk:Nat.beq k i<;>simp only[hk,cond_true,cond_false,c8]at e ⊢
  ·cases hj:Nat.beq j i<;>simp only[hj,cond_true,cond_false]at e ⊢
   ·exact XA e
   ·exact ⟨c',e,Or.inl rfl⟩
  ·cases hj:Nat.beq j i<;>simp only[hj,cond_true,cond_false]at e ⊢
   ·exact ⟨c',e,Or.inl rfl⟩
   ·simp only[Option.some.injEq,Prod.mk.injEq]at e
    obtain ⟨rfl,rfl⟩:=e;exact ⟨c0,rfl,Or.inr ⟨(BJ.1 hj).trans (BJ.1 hk).symm,rfl⟩⟩
theorem dX {kk:List It} {Q:Tm->Mem->Prop} (k s:Nat) (e:c8 M k=some (s,.rw 1 [])) (h:AA L kk tm (re k (.mx []) M) Q):AA L kk tm M Q:=by
 intro σ st hr;have hg : ∀ j t c,c6 (re k (.mx []) M) j t=some c -> ∃ c0,c6 M j t=some c0/\c0.e6 σ j=c.e6 σ j:=by
  intro j t c g;obtain ⟨s1,c1,g1,g2,g3⟩:=H0 g;obtain ⟨c0,q1,q2⟩:=XA g1;cases t with
  | zero =>
   rw[g2 rfl];rcases q2 with rfl|⟨rfl,rfl⟩
   ·exact ⟨_,DS q1,rfl⟩
   ·rw[e]at q1
    simp only[Option.some.injEq,Prod.mk.injEq]at q1;obtain ⟨rfl,rfl⟩:=q1;exact ⟨_,DS e,rfl⟩
  | succ i =>
   obtain ⟨rows,z,es,(rfl|⟨a,v,rfl⟩)|⟨w,rfl⟩,xg,rfl⟩:=g3 i rfl
   ·rcases q2 with rfl|⟨rfl,h0⟩
    ·exact ⟨.rw z es,by simp [c6,q1,xg],rfl⟩
    ·obtain rfl:rows=[]:=by simpa using h0
     simp at xg
   ·rcases q2 with rfl|⟨rfl,h0⟩
    ·exact ⟨.rw z es,by simp [c6,q1,xg],rfl⟩
    ·cases h0
   ·rcases q2 with rfl|⟨rfl,h0⟩
    ·exact ⟨.rw z es,by simp [c6,q1,xg],rfl⟩
    ·cases h0
 refine h σ st ⟨hr.tm,⟨?_,?_,?_,?_,?_⟩⟩
 ·intro j s' c g
  obtain ⟨c0,q1,_⟩:=XA g;exact hr.sat.site _ _ _ q1
 ·intro j t c g
  obtain ⟨c0,q1,q2⟩:=hg j t c g;rw[<-q2];exact hr.sat.e6 _ _ _ q1
 ·intro j t c g
  obtain ⟨c0,q1,_⟩:=hg j t c g;exact hr.sat.old _ _ _ q1
 ·intro j t j' t' c c' g g' hj
  obtain ⟨_,q1,_⟩:=hg j t c g;obtain ⟨_,q2,_⟩:=hg j' t' c' g';exact hr.sat.inj _ _ _ _ _ _ q1 q2 hj
 ·intro j t c g hw
  cases t with
  | zero =>
   obtain ⟨s1,c1,g1,g2,g3⟩:=H0 g;obtain ⟨c0,q1,q2⟩:=XA g1;have g2:=g2 rfl;subst g2;rcases q2 with rfl|⟨rfl,rfl⟩
   ·exact hr.sat.low _ _ _ (DS q1) hw
   ·exact hr.sat.low _ _ _ (DS e) rfl
  | succ t =>
   obtain ⟨c0,q1,_⟩:=hg _ _ _ g;exact hr.sat.low _ _ _ q1 (nY q1)
theorem FK {k:List It} {c:BF} {Q:Tm->Mem->Prop} (h:AA L (.code c :: .lp c::k) tm M Q):AA L (.lp c::k) tm M Q:=λ σ st hr=>dY.2 (h σ st hr)
theorem S4 {α:Type} {k:List It} {c:BF} {Q:Tm->Mem->Prop} (m:α->Nat) (P:α->Prop) (vs:α->Tm) (Ms:α->Mem) (ts:List Nat) (τ:List (Nat × Nat)) (a:α)
  (he:JQ τ tm M (vs a++v8 ts tm) (Ms a++M)) (hp:P a)
  (step : ∀ a,P a->(∀ a',m a'<m a->P a'->AA L (.lp c::k) (vs a'++v8 ts tm) (Ms a'++M) Q)->AA L (.code c :: .lp c::k) (vs a++v8 ts tm) (Ms a++M) Q):AA L (.lp c::k) tm M Q:=by
 have key : ∀ n a,m a<n->P a->AA L (.lp c::k) (vs a++v8 ts tm) (Ms a++M) Q:=by
  intro n;induction n with
  | zero=>intro a h;omega
  | succ n ih =>
   intro a ha hp;exact FK (step a hp λ a' h1 h2=>ih a' (by omega) h2)
 exact B5 τ he (key (m a+1) a (by omega) hp)
end
end Go.e9
namespace Go.e9
section
variable {α:Type} {enc:α->List AV} {l:List α} {L:Lib}
theorem AG {p q A B:Prop} (h1:p->A) (h2:q->B):AF p q A B:=⟨h1,h2⟩
theorem A3 {p A:Prop} (h1:p) (h2:A):AQ p A:=⟨h1,h2⟩
section
variable {K:AV->Prop} {a b:Int} {k k':IntKind} {op:BinOp}
theorem VT {v:AV} (h:DJ op k a k' b=some v) (hk:K v):AD op k a k' b K:=⟨v,h,hk⟩
theorem AZ (hr : -9223372036854775808<=a+b/\a+b<=9223372036854775807) (hk:K (.int .i64 (a+b))):AD .add .i64 a .i64 b K:=⟨_,by simp only[DJ,if_true];rw[IntWalk.i64_in _ hr],hk⟩
theorem BX (hr : -9223372036854775808<=a-b/\a-b<=9223372036854775807) (hk:K (.int .i64 (a-b))):AD .sub .i64 a .i64 b K:=⟨_,by simp only[DJ,if_true];rw[IntWalk.i64_in _ hr],hk⟩
theorem NN (hr : -9223372036854775808<=a*b/\a*b<=9223372036854775807) (hk:K (.int .i64 (a*b))):AD .mul .i64 a .i64 b K:=⟨_,by simp only[DJ,if_true];rw[IntWalk.i64_in _ hr],hk⟩
theorem RR (hb:0<b) (h1:(0<=a\/a%b=0)->0<=a%b->a%b<b->K (.int .i64 (a%b))) (h2:a<0->a%b≠0->0<=a%b->a%b<b->K (.int .i64 (a%b-b))):AD .rem .i64 a .i64 b K:=by
 have h5:0<=a%b:=Int.emod_nonneg _ (by omega);have h6:a%b<b:=Int.emod_lt_of_pos _ hb;have e:DJ .rem .i64 a .i64 b=some (.int .i64 (a.tmod b)):=by simp only[DJ];rw[if_pos ⟨trivial,by omega⟩]
 by_cases hc:0<=a\/a%b=0
 ·rw[rF hb,if_pos hc]at e
  exact ⟨_,e,h1 hc h5 h6⟩
 ·rw[rF hb,if_neg hc]at e
  exact ⟨_,e,h2 (by omega) (by omega) h5 h6⟩
theorem P4 (hb:0<b) (ha : -9223372036854775808<=a/\a<=9223372036854775807) (h1:(0<=a\/a%b=0)->K (.int .i64 (a/b))) (h2:a<0->a%b≠0->K (.int .i64 (a/b+1))):AD .quo .i64 a .i64 b K:=by
 have hr:=Mw (m:=b) (by omega) ha;have e:DJ .quo .i64 a .i64 b=some (.int .i64 (IntKind.i64.wrap (a.tdiv b))):=by simp only[DJ];rw[if_pos ⟨trivial,by omega⟩]
 by_cases hc:0<=a\/a%b=0
 ·rw[qX hb,if_pos hc,IntWalk.i64_in _ hr]at e
  exact ⟨_,e,h1 hc⟩
 ·have Zq:a/b<0:=Int.ediv_neg_of_neg_of_pos (by omega) hb
  rw[qX hb,if_neg hc,IntWalk.i64_in _ (by omega)]at e;exact ⟨_,e,h2 (by omega) (by omega)⟩
theorem uG (h:0<=b/\b<=63) (hk:K (.int .i64 (a/pw b))):AD .shr .i64 a k' b K:=⟨_,Vq h,hk⟩
theorem uI (hk:K (.int k (k.wrap (a+b)))):AD .add k a k b K:=⟨_,by simp only[DJ,if_true],hk⟩
theorem DW.neg (hr : -9223372036854775808 <= -a /\ -a<=9223372036854775807) (hk:K (.int .i64 (-a))):DW .neg .i64 a K:=⟨_,by simp only[PX];rw[show (0:Int)-a = -a by omega,IntWalk.i64_in _ hr],hk⟩
theorem DW.go {op:UnOp} {v:AV} (h:PX op (.int k a)=some v) (hk:K v):DW op k a K:=⟨v,h,hk⟩
end
theorem S6 {k:IntKind} {n:Int} {K:Int->Prop} (e:k.wrap n=n) (h:K n):A0 k n K:=⟨by rw[e];exact h⟩
theorem CH {n:Int} {K:Int->Prop} (hr:0<=n/\n<=18446744073709551615) (h:K n):A0 .u64 n K:=S6 (IntWalk.u64_in _ hr) h
theorem PY {n:Int} {K:Int->Prop} (hr : -9223372036854775808<=n/\n<=9223372036854775807) (h:K n):A0 .i64 n K:=S6 (IntWalk.i64_in _ hr) h
theorem BL {a:Int} {z:Nat} {K:List AV->Prop} {e:α} (he:l[a.toNat]? = some e) (h0:0<=a) (hz:(enc e).length=z) (h:K (enc e)):AW (l.map enc) a z K:=⟨h0,enc e,by simp [he],hz,h⟩
theorem YY {a:Int} {z:Nat} {K:List AV->Prop} (h0:0<=a/\a<l.length) (hz : ∀ e,(enc e).length=z) (h : ∀ e,l[a.toNat]? = some e->K (enc e)):AW (l.map enc) a z K:=by
 have he:l[a.toNat]? = some (l[a.toNat]'(by omega)):=zE _;exact BL he h0.1 (hz _) (h _ he)
theorem uM {n z:Nat} {K:List AV->Prop} (hn:n<l.length) (hz : ∀ e,(enc e).length=z) (h : ∀ e,l[n]? = some e->K (enc e)):AW (l.map enc) (n:Int) z K :=
 YY ⟨by omega,by omega⟩ hz h
theorem TA {i j n:Nat} {K:List AV->Prop} {f:α->List AV} (hi:i<l.length) (hp : ∀ e,part (enc e) j n=some (f e)) (h : ∀ e,l[i]? = some e->K (f e)):A9 (l.map enc) (0+((i:Int)).toNat) j n K:=by
 have he:l[i]? = some l[i]:=zE _;rw[Nat.zero_add,Int.toNat_natCast];exact ⟨enc l[i],f l[i],by simp [he],hp _,h _ he⟩
theorem P3 {i:Int} {j n:Nat} {K:List AV->Prop} {f:α->List AV} (hi:0<=i/\i<l.length) (hp : ∀ e,part (enc e) j n=some (f e)) (h : ∀ e,l[i.toNat]? = some e->K (f e)):A9 (l.map enc) (0+i.toNat) j n K:=by
 have hl:i.toNat<l.length:=by omega
 have he:l[i.toNat]? = some l[i.toNat]:=zE _;rw[Nat.zero_add];exact ⟨enc l[i.toNat],f l[i.toNat],by rw[List.getElem?_map,he];rfl,hp _,h _ he⟩
theorem F3 {i:Nat} {vs:List AV} {K:List (List AV)->Prop} (e:α) (he:vs=enc e) (hz : ∀ x,(enc x).length=vs.length) (hi:i<l.length) (h:K ((l.set i e).map enc)):BD (l.map enc) (0+((i:Int)).toNat) 0 vs K:=by
 rw[Nat.zero_add,Int.toNat_natCast];refine ⟨enc l[i],by simp [zE hi],by rw[hz];omega,?_⟩;rw[show splice (enc l[i]) 0 vs=vs by simp [splice,<-hz l[i]],he,<-List.map_set];exact h
theorem YS {i j n:Nat} {K:List AV->Prop} {e:α} {ds:List AV} (he:l[i]? = some e) (hp:part (enc e) j n=some ds) (h:K ds):A9 (l.map enc) i j n K:=⟨enc e,ds,by simp [he],hp,h⟩
theorem Vz {cs vs:List AV} (h:cs.length=vs.length):splice cs 0 vs=vs:=by
 simp [splice,<-h]
theorem uS {i:Nat} {vs:List AV} {K:List (List AV)->Prop} (e:α) (he:vs=enc e) (hz : ∀ x,(enc x).length=vs.length) (hi:i<l.length) (h:K ((l.set i e).map enc)):BD (l.map enc) i 0 vs K:=by
 refine ⟨enc l[i],by simp [zE hi],by rw[hz];omega,?_⟩;rw[Vz (hz _),he,<-List.map_set];exact h
theorem EM {a b:Int} {bytes:Nat} {zero:List AV} {K:List (List AV)->Nat->Prop} (x:α) (n:Nat) (hx:zero=enc x) (hn:a=n) (hr:a<=b/\b*bytes<=140737488355328/\b<=9223372036854775807) (h:K ((List.replicate n x).map enc) n):CO a b bytes zero K:=by
 subst hn hx;refine ⟨⟨by omega,hr.1,by simpa [EQ] using hr.2.1,hr.2.2⟩,?_⟩;simpa using h
theorem AR {K:Nat->Prop} (h:K l.length):AM (l.map enc) K:=⟨by simpa using h⟩
theorem GI {len z bytes:Nat} {vs:List AV} {K:List (List AV)->Nat->Prop} (e:α) (he:vs=enc e) (hl:len=l.length) (hz:vs.length=z) (hr:(l.length+1)*bytes<=140737488355328) (aq:l.length+1<=9223372036854775807) (h:K ((l++[e]).map enc) (l++[e]).length):AX (l.map enc) len [vs] z bytes K:=by
 subst hl;refine ⟨by simp,by simpa using hz,by simpa [EQ] using hr,by simpa using aq,?_⟩;rw[zT (by simp)];simpa [he] using h
theorem NM {len z bytes:Nat} {l':List α} {K:List (List AV)->Nat->Prop} (hl:len=l.length) (hz : ∀ x,(enc x).length=z) (hr:(l.length+l'.length)*bytes<=140737488355328) (aq:l.length+l'.length<=9223372036854775807) (h:K ((l++l').map enc) (l++l').length):AX (l.map enc) len (l'.map enc) z bytes K:=by
 subst hl;refine ⟨by simp,by simp [hz],by simpa [EQ] using hr,by simpa using aq,?_⟩;rw[zT (by simp)];simpa using h
theorem eA {z bytes:Nat} {vs:List AV} {K:List (List AV)->Nat->Prop} (e:α) (he:vs=enc e) (hz:vs.length=z) (hb:bytes<=140737488355328) (h:K ([e].map enc) 1):BI [vs] z bytes K :=
 ⟨by simpa using hz,by simpa [EQ] using hb,by simp,by simpa [he] using h⟩
theorem O5 {z bytes:Nat} {K:List (List AV)->Nat->Prop} (hz : ∀ x,(enc x).length=z) (hr:l.length*bytes<=140737488355328) (aq:l.length<=9223372036854775807) (h:K (l.map enc) l.length):BI (l.map enc) z bytes K :=
 ⟨by simp [hz],by simpa [EQ] using hr,by simpa using aq,by simpa using h⟩
theorem V0 {off len:Nat} {K:List (List AV)->Prop} (hl:off+len<=l.length) (h:K (((l.drop off).take len).map enc)):CE (l.map enc) off len K :=
 ⟨by simpa using hl,by rw[<-List.map_drop,<-List.map_take];exact h⟩
theorem bZ : ∀ {e:List AV},E5 e=true->LC e=true/\e.map nl=e
 | [],_=>⟨rfl,rfl⟩
 | v::r,h=>by
  have hv:E5 r=true:=by cases v<;>simp only[E5]at h<;>first|cases h|exact h
  obtain ⟨h1,h2⟩:=bZ hv;cases v<;>simp only[E5]at h<;>first|cases h|exact ⟨h1,by rw[List.map_cons,h2];rfl⟩
theorem oM : ∀ {es:List (List AV)},(∀ e∈es,E5 e=true)->es.map (λ e=>e.map nl)=es
 | [],_=>rfl
 | e::r,h=>by rw[List.map_cons,(bZ (h e List.mem_cons_self)).2,oM λ x hx=>h x (List.mem_cons_of_mem _ hx)]
theorem RS {es:List (List AV)} {off len:Nat} {K:List (List AV)->Prop} (hl:off+len<=es.length) (hz : ∀ e∈es,E5 e=true) (h:K ((es.drop off).take len)):A4 es off len K :=
 ⟨hl,λ e he=>(bZ (hz e he)).1,by rw[oM λ e he=>hz e (List.mem_of_mem_drop (List.mem_of_mem_take he))];exact h⟩
theorem D4 {off len:Nat} {K:List (List AV)->Prop} (hz : ∀ x,E5 (enc x)=true) (ho:off=0) (hl:len=l.length) (h:K (l.map enc)):A4 (l.map enc) off len K:=by
 subst hl ho;refine RS (by simp) (λ e he => ?_) (by rw[List.drop_zero,zT (by simp)];exact h);obtain ⟨x,_,rfl⟩:=List.mem_map.1 he;exact hz x
theorem GL {off len:Nat} {K:List (List AV)->Prop} (hz : ∀ x,E5 (enc x)=true) (hl:off+len<=l.length) (h:K (((l.drop off).take len).map enc)):A4 (l.map enc) off len K:=by
 refine RS (by simpa using hl) (λ e he => ?_) (by rw[<-List.map_drop,<-List.map_take];exact h);obtain ⟨x,_,rfl⟩:=List.mem_map.1 he;exact hz x
theorem EN {e:List AV} {K:List (List AV)->Prop} (h:K [e]):CE [e] 0 1 K:=⟨by simp,h⟩
theorem IH {e:List AV} {K:List (List AV)->Prop} (h0:E5 e=true) (h:K [e]):A4 [e] 0 1 K:=RS (by simp) (by simpa using h0) h
theorem TF {e e':List AV} {K:List (List AV)->Prop} (h0:E5 e=true) (h1:E5 e'=true) (h:K [e,e']):A4 [e,e'] 0 2 K:=RS (by simp) (by simpa using ⟨h0,h1⟩) h
section
variable {β:Type} {z:Nat} {ll:List (List β)} {en:β->List AV}
abbrev DH (z:Nat) (en:β->List AV) (ll:List (List β)):List (Option (Nat × List (List AV))):=ll.map λ r=>some (z,r.map en)
theorem RQ {i:Nat} {K:Option (Nat × List (List AV))->Prop} (hi:i<ll.length) (h : ∀ r,ll[i]? = some r->K (some (z,r.map en))):D6 (DH z en ll) (0+((i:Int)).toNat) K:=by
 have he:ll[i]? = some ll[i]:=zE _;exact ⟨_,by rw[Nat.zero_add,Int.toNat_natCast,List.getElem?_map,he];rfl,h _ he⟩
theorem tW {i:Nat} {K:Nat->List (List AV)->Prop} {r:List β} (hr:ll[i]? = some r) (h:K z (r.map en)):C3 (DH z en ll) i K :=
 ⟨z,r.map en,by rw[List.getElem?_map,hr];rfl,h⟩
theorem P0 {i:Nat} {K:Nat->List (List AV)->Prop} {r:List β} (hr:ll[i]? = some r) (h:K z (r.map en)):C3 (DH z en ll) (0+((i:Int)).toNat) K:=by
 rw[Nat.zero_add,Int.toNat_natCast];exact tW hr h
theorem YX {i:Nat} {r r':List β} {K:List (Option (Nat × List (List AV)))->Prop} (hl:r'.length=r.length) (h:K (DH z en (ll.set i r'))):EH (DH z en ll) (0+((i:Int)).toNat) z (r.map en) (r'.map en) K:=by
 rw[Nat.zero_add,Int.toNat_natCast];exact ⟨by simpa using hl,by simpa [DH,List.map_set] using h⟩
theorem S5 {len bytes:Nat} {r:List β} {K:List (Option (Nat × List (List AV)))->Nat->Prop} (hl:len=ll.length) (hr:(ll.length+1)*bytes<=140737488355328) (aq:ll.length+1<=9223372036854775807) (h:K (DH z en (ll++[r])) (ll++[r]).length):BP (DH z en ll) len (some (z,r.map en)) bytes K:=by
 subst hl;exact ⟨by simp,by simpa [EQ] using hr,aq,by simpa [DH] using h⟩
theorem pP (q:Bool) : ∀ ll:List (List β),PS q (DH z en ll)=ll.map λ r=>[AV.sl q (r.map en)]
 | []=>rfl
 | r::l=>by simp only[DH,List.map_cons,PS];rw[show PS q (l.map λ r=>some (z,r.map en))=_ from pP q l]
theorem V1 {q:Bool} {off len:Nat} {K:List (List AV)->Prop} (hz : ∀ x,E5 (en x)=true) (ho:off=0) (hl:len=ll.length) (h:K (ll.map λ r=>[AV.sl q (r.map en)])):C4 q (DH z en ll) off len K:=by
 refine ⟨ho,by simpa using hl,λ z' es hm e he => ?_,by rw[pP];exact h⟩;obtain ⟨r,_,hr⟩:=List.mem_map.1 hm;simp only[Option.some.injEq,Prod.mk.injEq]at hr;obtain ⟨rfl,rfl⟩:=hr;obtain ⟨x,_,rfl⟩:=List.mem_map.1 he;exact hz x
end
theorem tR {len:Nat} {a:Int} {K:Nat->Nat->Prop} (h0:0<=a/\a<=len) (h:K a.toNat len):CD (some a) none len K:=⟨a.toNat,len,⟨h0.1,rfl⟩,rfl,by omega,h⟩
theorem tO {len:Nat} {b:Int} {K:Nat->Nat->Prop} (h0:0<=b/\b<=len) (h:K 0 b.toNat):CD none (some b) len K:=⟨0,b.toNat,rfl,⟨h0.1,h0.2,rfl⟩,by omega,h⟩
theorem VP {len:Nat} {a b:Int} {K:Nat->Nat->Prop} (h0:0<=a/\a<=b/\b<=len) (h:K a.toNat b.toNat):CD (some a) (some b) len K:=⟨a.toNat,b.toNat,⟨h0.1,rfl⟩,⟨by omega,by omega,rfl⟩,by omega,h⟩
theorem TE {z:Nat} {lo hi:Option Int} {K:List (List AV)->Prop} (hz : ∀ x,(enc x).length=z) (h:CD lo hi l.length λ a h=>K (((l.take h).drop a).map enc)):C7 z (l.map enc) lo hi K:=by
 refine ⟨by simp [hz],?_⟩;rw[List.length_map];obtain ⟨a,b,h1,h2,h3,h4⟩:=h;refine ⟨a,b,h1,h2,h3,?_⟩;show K _;rw[<-List.map_take,<-List.map_drop];exact h4
theorem NR {z k:Nat} {K:List (List AV)->Prop} (hz : ∀ x,(enc x).length=z) (hk:k<=l.length) (h:K ((l.take k).map enc)):C7 z (l.map enc) none (some (k:Int)) K :=
 TE hz (tO (by omega) (by simpa using h))
theorem uR {z k:Nat} {K:List (List AV)->Prop} (hz : ∀ x,(enc x).length=z) (hk:k<=l.length) (h:K ((l.drop k).map enc)):C7 z (l.map enc) (some (k:Int)) none K :=
 TE hz (tR (by omega) (by simpa using h))
theorem AC {f:Nat} {vs:List AV} {K:AV->Prop} {r:AV} (h:Ev L f vs r) (hk:K r):AB L f vs K:=⟨r,h,hk⟩
theorem eB {f:Nat} {vs:List AV} {K:AV->Prop} {p:Prop} [Decidable p] (h:Ev L f vs (.bool (decide p))) (h1:p->K (.bool true)) (h2 : ¬ p->K (.bool false)):AB L f vs K:=by
 refine ⟨_,h,?_⟩;by_cases e:p
 ·rw[decide_eq_true e];exact h1 e
 ·rw[decide_eq_false e];exact h2 e
theorem AU {a r:AV} (h:a=r) (hc:A6 r):AJ a r:=⟨h,hc⟩
theorem HQ {a r:Bool} (h:a=r):AJ (.bool a) (.bool r):=⟨by rw[h],by simp [A6]⟩
theorem eG {p:Prop} [Decidable p] (h:p):AJ (.bool true) (.bool (decide p)):=⟨by simp [h],by simp [A6]⟩
theorem VS {p:Prop} [Decidable p] (h : ¬ p):AJ (.bool false) (.bool (decide p)):=⟨by simp [h],by simp [A6]⟩
theorem C2 {k:IntKind} {a b:Int} (h:a=b):AJ (.int k a) (.int k b):=⟨by rw[h],by simp [A6]⟩
theorem WF (h : ∀ x,C6 (enc x)) : ∀ l:List α,F9 (l.map enc)
 | []=>by simp [F9]
 | x::r=>by rw[List.map_cons,F9];exact ⟨h x,WF h r⟩
end
theorem ES {α:Type} {L:Lib} {k:List It} {cd:BF} {tm:Tm} {M:Mem} {Q:Tm->Mem->Prop} (m:α->Nat) (P:α->Prop) (vs:α->Tm) (Ms:α->Mem) (ts:List Nat) (τ:List (Nat × Nat)) (a:α)
  (he:JQ τ tm M (vs a++v8 ts tm) (Ms a++M)) (hp:P a)
  (step : ∀ a,P a->(∀ a',m a'<m a->P a'->AA L (.lp cd::k) (vs a'++v8 ts tm) (Ms a'++M) Q)->AA L (.code cd :: .lp cd::k) (vs a++v8 ts tm) (Ms a++M) Q):AA L (.lp cd::k) tm M Q :=
 S4 (α:=α) (λ x=>m x) (λ x=>P x) (λ x=>vs x) (λ x=>Ms x) ts τ a he hp λ a h ih=>step a h λ a' h1 h2=>ih a' h1 h2
theorem VO {α β:Type} {L:Lib} {k:List It} {cd:BF} {tm:Tm} {M:Mem} {Q:Tm->Mem->Prop} (m:α->β->Nat) (P:α->β->Prop) (vs:α->β->Tm) (Ms:α->β->Mem) (ts:List Nat) (τ:List (Nat × Nat)) (a:α) (b:β)
  (he:JQ τ tm M (vs a b++v8 ts tm) (Ms a b++M)) (hp:P a b)
  (step : ∀ a b,P a b->(∀ a' b',m a' b'<m a b->P a' b'->AA L (.lp cd::k) (vs a' b'++v8 ts tm) (Ms a' b'++M) Q)->AA L (.code cd :: .lp cd::k) (vs a b++v8 ts tm) (Ms a b++M) Q):AA L (.lp cd::k) tm M Q :=
 S4 (α:=α × β) (λ x=>m x.1 x.2) (λ x=>P x.1 x.2) (λ x=>vs x.1 x.2) (λ x=>Ms x.1 x.2) ts τ (a,b) he hp λ⟨a,b⟩ h ih=>step a b h λ a' b' h1 h2=>ih (a',b') h1 h2
theorem sG {α β γ:Type} {L:Lib} {k:List It} {cd:BF} {tm:Tm} {M:Mem} {Q:Tm->Mem->Prop} (m:α->β->γ->Nat) (P:α->β->γ->Prop) (vs:α->β->γ->Tm) (Ms:α->β->γ->Mem) (ts:List Nat) (τ:List (Nat × Nat)) (a:α) (b:β) (c:γ)
  (he:JQ τ tm M (vs a b c++v8 ts tm) (Ms a b c++M)) (hp:P a b c)
  (step : ∀ a b c,P a b c->(∀ a' b' c',m a' b' c'<m a b c->P a' b' c'->AA L (.lp cd::k) (vs a' b' c'++v8 ts tm) (Ms a' b' c'++M) Q)->AA L (.code cd :: .lp cd::k) (vs a b c++v8 ts tm) (Ms a b c++M) Q):AA L (.lp cd::k) tm M Q :=
 S4 (α:=α × β × γ) (λ x=>m x.1 x.2.1 x.2.2) (λ x=>P x.1 x.2.1 x.2.2) (λ x=>vs x.1 x.2.1 x.2.2) (λ x=>Ms x.1 x.2.1 x.2.2) ts τ (a,b,c) he hp λ⟨a,b,c⟩ h ih=>step a b c h λ a' b' c' h1 h2=>ih (a',b',c') h1 h2
theorem dW {α β γ δ:Type} {L:Lib} {k:List It} {cd:BF} {tm:Tm} {M:Mem} {Q:Tm->Mem->Prop} (m:α->β->γ->δ->Nat) (P:α->β->γ->δ->Prop) (vs:α->β->γ->δ->Tm) (Ms:α->β->γ->δ->Mem) (ts:List Nat) (τ:List (Nat × Nat)) (a:α) (b:β) (c:γ) (d:δ)
  (he:JQ τ tm M (vs a b c d++v8 ts tm) (Ms a b c d++M)) (hp:P a b c d)
  (step : ∀ a b c d,P a b c d->(∀ a' b' c' d',m a' b' c' d'<m a b c d->P a' b' c' d'->AA L (.lp cd::k) (vs a' b' c' d'++v8 ts tm) (Ms a' b' c' d'++M) Q)->AA L (.code cd :: .lp cd::k) (vs a b c d++v8 ts tm) (Ms a b c d++M) Q):AA L (.lp cd::k) tm M Q :=
 S4 (α:=α × β × γ × δ) (λ x=>m x.1 x.2.1 x.2.2.1 x.2.2.2) (λ x=>P x.1 x.2.1 x.2.2.1 x.2.2.2) (λ x=>vs x.1 x.2.1 x.2.2.1 x.2.2.2) (λ x=>Ms x.1 x.2.1 x.2.2.1 x.2.2.2) ts τ (a,b,c,d) he hp λ⟨a,b,c,d⟩ h ih=>step a b c d h λ a' b' c' d' h1 h2=>ih (a',b',c',d') h1 h2
theorem sH {α β γ δ ε ζ:Type} {L:Lib} {k:List It} {cd:BF} {tm:Tm} {M:Mem} {Q:Tm->Mem->Prop} (m:α->β->γ->δ->ε->ζ->Nat) (P:α->β->γ->δ->ε->ζ->Prop) (vs:α->β->γ->δ->ε->ζ->Tm) (Ms:α->β->γ->δ->ε->ζ->Mem) (ts:List Nat) (τ:List (Nat × Nat)) (a:α) (b:β) (c:γ) (d:δ) (e:ε) (f:ζ)
  (he:JQ τ tm M (vs a b c d e f++v8 ts tm) (Ms a b c d e f++M)) (hp:P a b c d e f)
  (step : ∀ a b c d e f,P a b c d e f->(∀ a' b' c' d' e' f',m a' b' c' d' e' f'<m a b c d e f->P a' b' c' d' e' f'->AA L (.lp cd::k) (vs a' b' c' d' e' f'++v8 ts tm) (Ms a' b' c' d' e' f'++M) Q)->AA L (.code cd :: .lp cd::k) (vs a b c d e f++v8 ts tm) (Ms a b c d e f++M) Q):AA L (.lp cd::k) tm M Q :=
 S4 (α:=α × β × γ × δ × ε × ζ) (λ x=>m x.1 x.2.1 x.2.2.1 x.2.2.2.1 x.2.2.2.2.1 x.2.2.2.2.2) (λ x=>P x.1 x.2.1 x.2.2.1 x.2.2.2.1 x.2.2.2.2.1 x.2.2.2.2.2) (λ x=>vs x.1 x.2.1 x.2.2.1 x.2.2.2.1 x.2.2.2.2.1 x.2.2.2.2.2) (λ x=>Ms x.1 x.2.1 x.2.2.1 x.2.2.2.1 x.2.2.2.2.1 x.2.2.2.2.2) ts τ (a,b,c,d,e,f) he hp λ⟨a,b,c,d,e,f⟩ h ih=>step a b c d e f h λ a' b' c' d' e' f' h1 h2=>ih (a',b',c',d',e',f') h1 h2
theorem ED {α:Type} {L:Lib} {k:List It} {cd:BF} {tm:Tm} {M:Mem} {Q:Tm->Mem->Prop} (m:α->Nat) (P:α->Prop) (vs:α->Tm) (Ms:α->Mem) (a:α)
  (hp:P a)
  (step : ∀ a,P a->(∀ a',m a'<m a->P a'->AA L (.lp cd::k) (vs a'++v8 [] tm) (Ms a'++M) Q)->AA L (.code cd :: .lp cd::k) (vs a++v8 [] tm) (Ms a++M) Q)
  (he:JQ [] tm M (vs a++v8 [] tm) (Ms a++M):=by (conv=>whnf);exact ⟨rfl,rfl,rfl⟩):AA L (.lp cd::k) tm M Q :=
 ES m P vs Ms [] [] a he hp step
theorem J2 {α β:Type} {L:Lib} {k:List It} {cd:BF} {tm:Tm} {M:Mem} {Q:Tm->Mem->Prop} (m:α->β->Nat) (P:α->β->Prop) (vs:α->β->Tm) (Ms:α->β->Mem) (a:α) (b:β)
  (hp:P a b)
  (step : ∀ a b,P a b->(∀ a' b',m a' b'<m a b->P a' b'->AA L (.lp cd::k) (vs a' b'++v8 [] tm) (Ms a' b'++M) Q)->AA L (.code cd :: .lp cd::k) (vs a b++v8 [] tm) (Ms a b++M) Q)
  (he:JQ [] tm M (vs a b++v8 [] tm) (Ms a b++M):=by (conv=>whnf);exact ⟨rfl,rfl,rfl⟩):AA L (.lp cd::k) tm M Q :=
 VO m P vs Ms [] [] a b he hp step
theorem GH {α β γ:Type} {L:Lib} {k:List It} {cd:BF} {tm:Tm} {M:Mem} {Q:Tm->Mem->Prop} (m:α->β->γ->Nat) (P:α->β->γ->Prop) (vs:α->β->γ->Tm) (Ms:α->β->γ->Mem) (a:α) (b:β) (c:γ)
  (hp:P a b c)
  (step : ∀ a b c,P a b c->(∀ a' b' c',m a' b' c'<m a b c->P a' b' c'->AA L (.lp cd::k) (vs a' b' c'++v8 [] tm) (Ms a' b' c'++M) Q)->AA L (.code cd :: .lp cd::k) (vs a b c++v8 [] tm) (Ms a b c++M) Q)
  (he:JQ [] tm M (vs a b c++v8 [] tm) (Ms a b c++M):=by (conv=>whnf);exact ⟨rfl,rfl,rfl⟩):AA L (.lp cd::k) tm M Q :=
 sG m P vs Ms [] [] a b c he hp step
theorem AE {L:Lib} {Q:Tm->Mem->Prop} {c:BF} {k:List It} {tm:Tm} {M:Mem} (h:fT (ry 0 tm) λ tm=>UM M λ M=>XK L Q 500 (.code c::k) tm M):AA L (.code c::k) tm M Q:=by
 rw[T9,bK]at h;exact sE (eV h)
end Go.e9

namespace Go.e9
variable {L:Lib}
def CT (N:Nat):AP->Bool
 | .t n=>Nat.blt n N
 | .c _=>true
def UT (N:Nat):DT->Bool
 | .a9 x=>CT N x
 | .ah _ _=>true
 | .pick c a b=>CT N c&&(CT N a&&CT N b)
 | .bin _ x y=>CT N x&&CT N y
 | .beq _ x y=>CT N x&&CT N y
 | .un _ x=>CT N x
 | .conv _ x=>CT N x
 | .box _ x=>CT N x
 | .alloc _ _=>true
 | .build _ ps=>ps.all λ p=>CT N p.2.2
 | .c4 _ _ ps=>ps.all (CT N)
 | .a5 x _=>CT N x
 | .lg x _ _ _=>CT N x
 | .a7 _ _ x i=>CT N x&&CT N i
 | .ld _ _ x=>CT N x
 | .st _ x v=>CT N x&&CT N v
 | .mk _ _ _ _ l c=>CT N l&&CT N c
 | .ew _ x lo hi=>CT N x&&((lo.all (CT N))&&(hi.all (CT N)))
 | .ext x _=>CT N x
 | .len x=>CT N x
 | .mm _ xs=>xs.all (CT N)
 | .app _ _ _ x y=>CT N x&&CT N y
 | .call _ xs=>xs.all (CT N)
 | .e8 _ xs=>xs.all (CT N)
 | .oi _ x=>CT N x
 | .eu _ x=>CT N x
 | .bad=>true
 | .mh _ _ xs=>xs.all (CT N)
 | .o0 x xs=>CT N x&&xs.all (CT N)
 | .l9 _ xs=>xs.all (CT N)
 | .m6 _ _ xs=>xs.all (CT N)
 | .bg _ _ xs=>xs.all (CT N)
 | .kz _ _ x v=>CT N x&&CT N v
 | .v9 _ _ _ x y=>CT N x&&CT N y
def TH (N:Nat) (a:AI):Bool:=(a.dst.all λ d=>Nat.blt d N)&&((a.guard.all λ g=>Nat.blt g.1 N)&&UT N a.op)
def HT (N:Nat):BF->Bool
 | .skip=>true
 | .ops l _=>l.all (TH N)
 | .dr c ts _=>HT N c&&ts.all λ t=>Nat.blt t N
 | .scope c=>HT N c
 | .seq a b=>HT N a&&HT N b
 | .cond c a b=>CT N c&&(HT N a&&HT N b)
 | .block _ c=>HT N c
 | .loop c=>HT N c
 | .exit _=>true
 | .ret=>true
def PJ (N:Nat):It->Bool
 | .code c=>HT N c
 | .lf ts _=>ts.all λ t=>Nat.blt t N
 | .e6 _=>true
 | .lp c=>HT N c
structure Gh (N:Nat) (G T T':Tm):Prop where
 lo : ∀ j,j<N->g6 T' j=g6 T j
 hi : ∀ j,N<=j->g6 T' j=g6 G j
variable {N:Nat} {G:Tm}
theorem QA {a b:Nat}:Nat.blt a b=true↔a<b:=by simp [Nat.blt];omega
theorem Gh.ev {st:St} {T':Tm} {o:AH} (h:Gh N G st.tm T') {x:AP} (hx:CT N x=true):St.ev ⟨T',o⟩ x=st.ev x:=by
 cases x with
 | t n=>exact h.lo n (QA.1 hx)
 | c v=>rfl
theorem QT {f g:AP->AV} {xs:List AP} (h : ∀ x,CT N x=true->f x=g x) (hx:xs.all (CT N)=true):xs.map f=xs.map g:=by
 apply List.map_congr_left;intro x hm;exact h x (List.all_eq_true.1 hx x hm)
theorem Kx {C:Cl} {c5:List Nat} {ρ ρ':AP->AV} {own:AH} (h : ∀ x,CT N x=true->ρ' x=ρ x) : ∀ (op:DT),UT N op=true->e7 C c5 ρ' own op=e7 C c5 ρ own op:=by
 intro op k9;cases op;case build zero ps =>
  have:(ps.map λ p=>(p.1,p.2.1,ρ' p.2.2))=ps.map λ p=>(p.1,p.2.1,ρ p.2.2):=by
   apply List.map_congr_left;intro p hm;rw[h _ (List.all_eq_true.1 k9 p hm)]
  simp only[e7,this]
 case c4 s a8 ps =>
  have:ps.mapM (λ x=>cellsOf (ρ' x))=ps.mapM (λ x=>cellsOf (ρ x)):=by
   have oy:ps.all (CT N)=true:=k9;clear k9;induction ps with
   | nil=>rfl
   | cons p r ih =>
    simp only[List.all_cons,Bool.and_eq_true]at oy;simp only[List.mapM_cons,h _ oy.1,ih oy.2]
  simp only[e7,this]
 case mm m xs=>simp only[e7,QT h k9]
 case call f xs=>simp only[e7,QT h k9]
 case e8 f xs=>simp only[e7,QT h k9]
 case mh p f xs =>
  have:xs.mapM (λ x=>GP (ρ' x))=xs.mapM (λ x=>GP (ρ x)):=by
   have oy:xs.all (CT N)=true:=k9;clear k9;induction xs with
   | nil=>rfl
   | cons p r ih =>
    simp only[List.all_cons,Bool.and_eq_true]at oy;simp only[List.mapM_cons,h _ oy.1,ih oy.2]
  simp only[e7,this]
 case l9 f xs=>simp only[e7,QT h k9]
 case m6 s f xs=>simp only[e7,QT h k9]
 case bg s f xs=>simp only[e7,QT h k9]
 case o0 x xs =>
  simp only[UT,Bool.and_eq_true]at k9;simp only[e7,QT h k9.2,h _ k9.1]
 case ew a8 x lo hi =>
  simp only[UT,Bool.and_eq_true]at k9;obtain ⟨h1,h2,h3⟩:=k9;cases lo<;>cases hi<;>simp only[Option.all_some,Option.all_none]at h2 h3<;>simp only[e7,h _ h1,h _,h2,h3]
 all_goals (simp only[UT,Bool.and_eq_true]at k9;simp only[e7,h _,k9])
theorem Gh.dst {T T':Tm} (h:Gh N G T T') {d:Nat} (hd:d<N) (v:AV):Gh N G (gp T d v) (gp T' d v):=by
 constructor
 ·intro j hj
  rw[VJ,VJ,h.lo j hj]
 ·intro j hj
  rw[VJ,h.hi j hj,if_neg (by omega)]
theorem Gh.mn {T T':Tm} {o:AH} (h:Gh N G T T') {d:Option Nat} (hd:(d.all λ d=>Nat.blt d N)=true) (v:AV):((⟨T',o⟩:St).dst d v).own=((⟨T,o⟩:St).dst d v).own/\Gh N G ((⟨T,o⟩:St).dst d v).tm ((⟨T',o⟩:St).dst d v).tm:=by
 cases d with
 | none=>exact ⟨rfl,h⟩
 | some d=>exact ⟨rfl,h.dst (QA.1 hd) v⟩
theorem We {C:Cl} {a:AI} (ha:TH N a=true) {T T':Tm} {o:AH} (h:Gh N G T T') {s':St} (hs:C1 C a ⟨T',o⟩=some s') : ∃ s,C1 C a ⟨T,o⟩=some s/\s'.own=s.own/\Gh N G s.tm s'.tm:=by
 simp only[TH,Bool.and_eq_true]at ha;obtain ⟨h1,h2,h3⟩:=ha;have hg:FH ⟨T',o⟩ a.guard=FH ⟨T,o⟩ a.guard:=by
  cases Yv:a.guard with
  | none=>rfl
  | some g =>
   rw[Yv]at h2;simp only[FH,h.lo _ (QA.1 h2)]
 have he:=Kx (C:=C) (c5:=a.c5) (own:=o) (ρ:=St.ev ⟨T,o⟩) (ρ':=St.ev ⟨T',o⟩) (λ x hx=>Gh.ev (st:=⟨T,o⟩) h hx) a.op h3;unfold C1 at hs ⊢;rw[hg,he]at hs;cases yj:FH ⟨T,o⟩ a.guard with
 | none=>rw[yj]at hs;cases hs
 | some b =>
  rw[yj]at hs;cases b with
  | false =>
   simp only[Option.some.injEq]at hs ⊢;subst hs;exact ⟨_,rfl,h.mn h1 _⟩
  | true =>
   simp only at hs ⊢;cases Ig:e7 C a.c5 (St.ev ⟨T,o⟩) o a.op with
   | none=>rw[Ig]at hs;cases hs
   | some e =>
    rw[Ig]at hs;simp only[Option.map_some,Option.some.injEq]at hs ⊢;subst hs;refine ⟨_,rfl,?_⟩;cases e with
    | val v=>exact h.mn h1 v
    | new s b v=>exact ⟨rfl,(h.mn (o:=o) h1 _).2⟩
    | tz s b v=>exact ⟨rfl,(h.mn (o:=o) h1 _).2⟩
    | cr v o'=>exact ⟨rfl,(h.mn (o:=o) h1 _).2⟩
    | o9 s x=>exact ⟨rfl,(h.mn (o:=o) h1 _).2⟩
    | nu s x v=>exact ⟨rfl,(h.mn (o:=o) h1 _).2⟩
theorem qR {C:Cl} : ∀ {l:List AI},l.all (TH N)=true -> ∀ {T T':Tm} {o:AH},Gh N G T T' -> ∀ {s':St},DE C l ⟨T',o⟩=some s' -> ∃ s,DE C l ⟨T,o⟩=some s/\s'.own=s.own/\Gh N G s.tm s'.tm
 | [],_,T,T',o,h,s',hs=>by
  simp only[DE,Option.some.injEq]at hs;subst hs;exact ⟨_,rfl,rfl,h⟩
 | a::l,ha,T,T',o,h,s',hs=>by
  simp only[List.all_cons,Bool.and_eq_true]at ha;simp only[DE]at hs;cases h1:C1 C a ⟨T',o⟩ with
  | none=>rw[h1]at hs;cases hs
  | some s1 =>
   rw[h1]at hs;obtain ⟨s2,e1,e2,e3⟩:=We ha.1 h h1;obtain ⟨T1,o1⟩:=s1;obtain ⟨T2,o2⟩:=s2;simp only at e2 e3;subst e2;obtain ⟨s3,f1,f2,f3⟩:=qR ha.2 e3 hs;exact ⟨s3,by simp only[DE,e1,f1],f2,f3⟩
theorem T7 {id:Nat} : ∀ {k k':List It},k.all (PJ N)=true->FG id k=some k'->k'.all (PJ N)=true
 | [],_,_,h=>by simp [FG]at h
 | it::k,k',hk,h=>by
  simp only[List.all_cons,Bool.and_eq_true]at hk;cases it with
  | e6 i =>
   simp only[FG]at h;split at h
   ·cases h;exact hk.2
   ·exact T7 hk.2 h
  | code c=>simp only[FG]at h;exact T7 hk.2 h
  | lf a b=>simp only[FG]at h;exact T7 hk.2 h
  | lp c=>simp only[FG]at h;exact T7 hk.2 h
theorem H9 {C:Cl} : ∀ (n:Nat) {k:List It},k.all (PJ N)=true -> ∀ {T T':Tm} {o:AH},Gh N G T T' -> ∀ {s':St},run C n k ⟨T',o⟩=some s' -> ∃ s,run C n k ⟨T,o⟩=some s/\s'.own=s.own/\Gh N G s.tm s'.tm
 | 0,k,_,T,T',o,_,s',hs=>by simp [run]at hs
 | n+1,[],_,T,T',o,h,s',hs=>by
  simp only[run,Option.some.injEq]at hs ⊢;subst hs;exact ⟨_,rfl,rfl,h⟩
 | n+1,.e6 _::k,hk,T,T',o,h,s',hs=>by
  simp only[List.all_cons,Bool.and_eq_true]at hk;simp only[run]at hs ⊢;exact H9 n hk.2 h hs
 | n+1,.lf ts ss::k,hk,T,T',o,h,s',hs=>by
  simp only[List.all_cons,Bool.and_eq_true]at hk;simp only[run]at hs ⊢;refine H9 n hk.2 ⟨λ j hj => ?_,λ j hj => ?_⟩ hs
  ·rw[SZ,SZ,h.lo j hj]
  ·rw[SZ,h.hi j hj,if_neg]
   intro hc;have:=List.all_eq_true.1 hk.1 j (by simpa using hc)
   have:=QA.1 this
   omega
 | n+1,.lp c::k,hk,T,T',o,h,s',hs=>by
  simp only[run]at hs ⊢;have fm:=hk;simp only[List.all_cons,Bool.and_eq_true]at hk;exact H9 n (by simp only[List.all_cons,Bool.and_eq_true];exact ⟨hk.1,hk.1,hk.2⟩) h hs
 | n+1,.code c::k,hk,T,T',o,h,s',hs=>by
  simp only[List.all_cons,Bool.and_eq_true]at hk;obtain ⟨hc,hk⟩:=hk;cases c with
  | skip=>simp only[run]at hs ⊢;exact H9 n hk h hs
  | ops l d =>
   simp only[run]at hs ⊢;cases h1:DE C l ⟨T',o⟩ with
   | none=>rw[h1]at hs;cases hs
   | some s1 =>
    rw[h1]at hs;obtain ⟨s2,e1,e2,e3⟩:=qR (show l.all (TH N)=true from hc) h h1;obtain ⟨T1,o1⟩:=s1;obtain ⟨T2,o2⟩:=s2;simp only at e2 e3;subst e2;rw[e1];exact H9 n hk e3 hs
  | dr c ts ss =>
   simp only[run]at hs ⊢;simp only[PJ,HT,Bool.and_eq_true]at hc;exact H9 n (by simp only[List.all_cons,Bool.and_eq_true];exact ⟨hc.1,hc.2,hk⟩) h hs
  | scope c =>
   simp only[run]at hs ⊢;exact H9 n (by simp only[List.all_cons,Bool.and_eq_true];exact ⟨hc,hk⟩) h hs
  | seq a b =>
   simp only[run]at hs ⊢;simp only[PJ,HT,Bool.and_eq_true]at hc;exact H9 n (by simp only[List.all_cons,Bool.and_eq_true];exact ⟨hc.1,hc.2,hk⟩) h hs
  | cond x a b =>
   simp only[PJ,HT,Bool.and_eq_true]at hc;simp only[run,Gh.ev (st:=⟨T,o⟩) h hc.1]at hs ⊢;cases hx:St.ev ⟨T,o⟩ x<;>rw[hx]at hs<;>try (simp at hs;done)
   rename_i q;cases q
   ·exact H9 n (by simp only[List.all_cons,Bool.and_eq_true];exact ⟨hc.2.2,hk⟩) h hs
   ·exact H9 n (by simp only[List.all_cons,Bool.and_eq_true];exact ⟨hc.2.1,hk⟩) h hs
  | block id c =>
   simp only[run]at hs ⊢;exact H9 n (by simp only[List.all_cons,Bool.and_eq_true];exact ⟨hc,rfl,hk⟩) h hs
  | loop c =>
   simp only[run]at hs ⊢;exact H9 n (by simp only[List.all_cons,Bool.and_eq_true];exact ⟨hc,hc,hk⟩) h hs
  | exit id =>
   simp only[run]at hs ⊢;cases he:FG id k with
   | none=>rw[he]at hs;cases hs
   | some k' =>
    rw[he]at hs;exact H9 n (T7 hk he) h hs
  | ret =>
   simp only[run,Option.some.injEq]at hs ⊢;subst hs;exact ⟨_,rfl,rfl,h⟩
def GF (N:Nat):Tm->Tm
 | []=>[]
 | (i,v)::r=>(N+i,v)::GF N r
def gh (N:Nat):Tm->Tm
 | []=>[]
 | (i,v)::r=>bif Nat.ble N i then (Nat.sub i N,v)::gh N r else gh N r
theorem dP (N j:Nat) : ∀ T:Tm,g6 (GF N T) (N+j)=g6 T j
 | []=>rfl
 | (i,v)::r=>by
  have ih:=dP N j r;simp only[GF,g6,ih];by_cases h:j=i
  ·simp [h]
  ·rw[if_neg h,if_neg (by omega)]
theorem dQ {N j:Nat} (hj:j<N) : ∀ T:Tm,g6 (GF N T) j = .any
 | []=>rfl
 | (i,v)::r=>by
  simp only[GF,g6,dQ hj r];rw[if_neg (by omega)]
theorem dN (N j:Nat) : ∀ T:Tm,g6 (gh N T) j=g6 T (N+j)
 | []=>rfl
 | (i,v)::r=>by
  have ih:=dN N j r;simp only[gh];cases h:Nat.ble N i
  ·have h1 : ¬ N<=i:=λ e=>by rw[Nat.ble_eq_true_of_le e]at h;cases h
   simp only[cond,g6,ih];rw[if_neg (by omega)]
  ·have h1:=Nat.le_of_ble_eq_true h
   simp only[cond,g6,ih];by_cases h2:j=i-N
   ·rw[if_pos (show j=Nat.sub i N from h2),if_pos (by omega)]
   ·rw[if_neg (show ¬ j=Nat.sub i N from h2),if_neg (by omega)]
def KP (f:AV->AV):Tm->Tm
 | []=>[]
 | (i,v)::r=>(i,f v)::KP f r
theorem JM {f:AV->AV} (hf:f .any = .any) (j:Nat) : ∀ T:Tm,g6 (KP f T) j=f (g6 T j)
 | []=>hf.symm
 | (i,v)::r=>by
  simp only[KP,g6,JM hf j r];by_cases h:j=i<;>simp [h]
theorem aV (f:AV->AV) : ∀ (i:Nat) (vs:List AV),CR i (vs.map f)=KP f (CR i vs)
 | _,[]=>rfl
 | i,v::r=>by simp only[List.map_cons,CR,KP,aV f (i+1) r]
theorem VH (j:Nat) (b:Tm) : ∀ a:Tm,((a.any λ p=>p.1 == j)=true/\g6 (a++b) j=g6 a j)\/((a.any λ p=>p.1 == j)=false/\g6 (a++b) j=g6 b j)
 | []=>Or.inr ⟨rfl,rfl⟩
 | (i,v)::r=>by
  by_cases h:j=i
  ·subst h
   exact Or.inl (by simp [g6])
  ·have h' : ¬ i=j:=λ e=>h e.symm
   rcases VH j b r with ⟨h1,h2⟩|⟨h1,h2⟩
   ·exact Or.inl ⟨by rw[List.any_cons,h1,Bool.or_true],by simp only[List.cons_append,g6,if_neg h,h2]⟩
   ·exact Or.inr ⟨by rw[List.any_cons,h1,Bool.or_false];simpa using h',by simp only[List.cons_append,g6,if_neg h,h2]⟩
theorem aU (j:Nat) : ∀ (i:Nat) (vs:List AV),((CR i vs).any λ p=>p.1 == j)=true->j<i+vs.length
 | _,[],h=>by simp [CR]at h
 | i,v::r,h=>by
  simp only[CR,List.any_cons,Bool.or_eq_true,beq_iff_eq]at h;rcases h with h|h
  ·simp;omega
  ·have:=aU j (i+1) r h
   simp;omega
theorem dO (j:Nat) : ∀ (i:Nat) (vs:List AV),((CR i vs).any λ p=>p.1 == j)=false->g6 (CR i vs) j = .any
 | _,[],_=>rfl
 | i,v::r,h=>by
  simp only[CR,List.any_cons,Bool.or_eq_false_iff,beq_eq_false_iff_ne]at h;simp only[CR,g6];rw[if_neg λ e=>h.1 e.symm,dO j (i+1) r h.2]
theorem J1 (σ:FU):BC σ .any = .any:=rfl
def PO (tm:Tm):List IV->Option (List AV)
 | []=>some []
 | .tmp t::r=>match H8 (tg tm t),PO tm r with
  | some v,some vs=>some (v::vs)
  | _,_=>none
 | .cell _ _ _::_=>none
def U3 (N:Nat):List IV->Bool
 | []=>true
 | .tmp t::r=>Nat.blt t N&&U3 N r
 | .cell _ _ _::_=>false
def eR (N:Nat) (fn:AFn) (tm:Tm) (K:AV->Mem->Prop) (ag:Tm) (M':Mem):Prop:=gh N ag=tm /\ ∃ rs,PO ag fn.res=some rs/\K (HN rs) M'
theorem Tc {σ:FU} {v u:AV} (h:H8 v=some u):u=v/\BC σ v=BT σ v/\H8 (BC σ v)=some (BC σ v):=by
 cases v<;>simp [H8]at h<;>subst h<;>exact ⟨rfl,rfl,rfl⟩
theorem cN {σ:FU} {ag:Tm} {M:Mem} {s s':St} (hr:RX σ ag M s') (ln : ∀ j,j<N->g6 s'.tm j=g6 s.tm j) : ∀ {res:List IV} {rs:List AV},U3 N res=true->PO ag res=some rs->res.mapM (E6 s)=some (rs.map (BT σ)) /\ ∀ v∈rs,BC σ v=BT σ v
 | [],rs,_,h=>by
  simp only[PO,Option.some.injEq]at h;subst h;exact ⟨rfl,by simp⟩
 | .cell _ _ _::_,_,_,h=>by simp [PO]at h
 | .tmp t::r,rs,hl,h=>by
  simp only[U3,Bool.and_eq_true]at hl;simp only[PO]at h;cases h1:H8 (tg ag t) with
  | none=>rw[h1]at h;simp at h
  | some v =>
   cases h2:PO ag r with
   | none=>rw[h1,h2]at h;simp at h
   | some vs =>
    rw[h1,h2]at h;simp only[Option.some.injEq]at h;subst h;obtain ⟨i1,i2⟩:=cN hr ln hl.2 h2;obtain ⟨rfl,j2,j3⟩:=Tc (σ:=σ) h1;have:g6 s.tm t=BC σ (tg ag t):=by
     rcases hr.tm t with e|e
     ·rw[e]at h1;cases h1
     ·rw[<-ln t (QA.1 hl.1),e]
    refine ⟨?_,?_⟩
    ·rw[j2]at j3 this
     simp only[List.mapM_cons,E6,this,j3,i1,List.map_cons];rfl
    ·intro v hv
     simp only[List.mem_cons]at hv;rcases hv with rfl|hv
     ·exact j2
     ·exact i2 v hv
theorem pJ {σ:FU} {rs:List AV} (h : ∀ v∈rs,BC σ v=BT σ v):HN (rs.map (BT σ))=BC σ (HN rs):=by
 match rs,h with
 | [],_=>rfl
 | [v],h=>exact (h v (by simp)).symm
 | _::_::_,_=>rfl
theorem FC {f:Nat} {fn:AFn} {vs:List AV} {tm:Tm} {M:Mem} {K:AV->Mem->Prop} (N:Nat) (hL:L f=some fn) (hp:Nat.beq vs.length fn.af=true) (hN:(Nat.ble fn.af N&&(HT N fn.body&&U3 N fn.res))=true)
  (h:AA L [.code fn.body] (CR 0 vs++GF N tm) M (eR N fn tm K)):BA L f vs tm M K:=by
 intro σ own hs;simp only[Bool.and_eq_true]at hN;obtain ⟨n1,n2,n3⟩:=hN;have n1:=Nat.le_of_ble_eq_true n1;have hp:vs.length=fn.af:=Nat.eq_of_beq_eq_true hp;have Ge:RX σ (CR 0 vs++GF N tm) M ⟨KP (BC σ) (CR 0 vs++GF N tm),own⟩:=⟨λ j=>Or.inr (by rw[JL];exact JM (J1 σ) j _),hs⟩;obtain ⟨n,c,s',hr,σ',ag,M',hR,hg,rs,Gc,hk⟩:=h σ _ Ge;have Fb:Gh N (KP (BC σ) (GF N tm)) (CR 0 (vs.map (BC σ))) (KP (BC σ) (CR 0 vs++GF N tm)):=by
  constructor
  ·intro j hj
   rw[aV,JM (J1 σ),JM (J1 σ)];rcases VH j (GF N tm) (CR 0 vs) with ⟨_,e⟩|⟨hn,e⟩
   ·rw[e]
   ·rw[e,dQ hj,dO j 0 vs hn]
  ·intro j hj
   rw[JM (J1 σ),JM (J1 σ)];rcases VH j (GF N tm) (CR 0 vs) with ⟨hn,e⟩|⟨_,e⟩
   ·have:=aU j 0 vs hn
    omega
   ·rw[e]
 obtain ⟨s,r1,r2,r3⟩:=H9 n (by simp [PJ,n2]) Fb hr;obtain ⟨i1,i2⟩:=cN (s:=s) hR r3.lo n3 Gc;refine ⟨HN rs,s.own,σ',M',GJ.intro hL (by simpa using hp) ⟨n,c,s,r1,?_,rfl⟩,?_,?_,hk⟩
 ·rw[i1,Option.map_some,pJ i2]
 ·rw[<-r2];exact hR.sat
 ·intro j
  have e1:tg tm j=tg ag (N+j):=by rw[JL,JL,<-hg,dN]
  rcases hR.tm (N+j) with e|e
  ·rw[e1,e];rfl
  ·rw[e1,<-e,r3.hi (N+j) (by omega),JM (J1 σ),dP,<-JL,e1]
theorem TG {α:Type} {enc:α->List AV} {l:List α} {i:Nat} {vs:List AV} {K:List (List AV)->Prop} (n:Nat) (e:α) (hn:i=n) (he:vs=enc e) (hz : ∀ x,(enc x).length=vs.length) (hi:n<l.length) (h:K ((l.set n e).map enc)):BD (l.map enc) i 0 vs K:=by
 subst hn;exact uS e he hz hi h
theorem F8 {x:Int} {len:Nat} {K:Nat->Nat->Prop} (h:Nat) (hx:x=h) (hl:h<=len) (hk:K 0 h):CD none (some x) len K:=⟨0,h,rfl,⟨by omega,by omega,by omega⟩,by omega,hk⟩
end Go.e9

namespace Go.e9
section
variable {K:AV->Prop} {a b:Nat} {k':IntKind}
theorem wrap_u32 (n:Nat):IntKind.u32.wrap (n:Int)=((n%4294967296:Nat):Int):=by rw[IntKind.wrap_u32];omega
theorem Vf (n:Nat):IntKind.u64.wrap (n:Int)=((n%18446744073709551616:Nat):Int):=by
 simp [IntKind.wrap,IntKind.bits,IntKind.signed]
theorem F2 (h:a+b<=18446744073709551615) (hk:K (.int .u64 ((a+b:Nat):Int))):AD .add .u64 (a:Int) .u64 (b:Int) K :=
 ⟨_,by simp only[DJ,if_true];rw[IntWalk.u64_in _ (by omega)],by simpa using hk⟩
theorem IG (h:b<=a) (h2:a<=18446744073709551615) (hk:K (.int .u64 ((a-b:Nat):Int))):AD .sub .u64 (a:Int) .u64 (b:Int) K :=
 ⟨_,by simp only[DJ,if_true];rw[IntWalk.u64_in _ (by omega)],by rw[show (a:Int)-b=((a-b:Nat):Int) by omega];exact hk⟩
theorem VY (h:b<=18446744073709551616) (hk:K (.int .u64 ((EG a b:Nat):Int))):AD .sub .u64 (a:Int) .u64 (b:Int) K :=
 VT (v := .int .u64 (IntKind.u64.wrap ((a:Int)-b))) (by simp only[DJ,if_true]) (by
  have e:IntKind.u64.wrap ((a:Int)-b)=((EG a b:Nat):Int):=by
   rw[RJ];simp only[IntKind.wrap,IntKind.bits,IntKind.signed];simp;omega
  rw[e];exact hk)
theorem OD (h:a*b<=18446744073709551615) (hk:K (.int .u64 ((a*b:Nat):Int))):AD .mul .u64 (a:Int) .u64 (b:Int) K :=
 ⟨_,by simp only[DJ,if_true];rw[<-Int.natCast_mul,IntWalk.u64_in _ (by omega)],hk⟩
theorem VW (h:0<b) (h2:a<=18446744073709551615) (hk:K (.int .u64 ((a/b:Nat):Int))):AD .quo .u64 (a:Int) .u64 (b:Int) K:=by
 refine ⟨_,by simp only[DJ];rw[if_pos ⟨trivial,by omega⟩],?_⟩;rw[IntWalk.u64_quo _ _ ⟨by omega,by omega,by omega⟩,<-Int.natCast_ediv];exact hk
theorem TB (h:0<b) (hk:K (.int .u64 ((a%b:Nat):Int))):AD .rem .u64 (a:Int) .u64 (b:Int) K:=by
 refine ⟨_,by simp only[DJ];rw[if_pos ⟨trivial,by omega⟩],?_⟩;rw[IntWalk.rem_in _ _ (by omega),<-Int.natCast_emod];exact hk
theorem Vp {k:IntKind} {n:Nat} (hn:n<=k.bits):DJ .shl k (a:Int) k' (n:Int)=some (.int k (k.wrap ((a*2^n:Nat):Int))):=by
 simp only[DJ];rw[if_neg (by omega),Int.toNat_natCast,Nat.min_eq_left hn];simp
theorem Vr {k:IntKind} {n:Nat} (hn:n<=k.bits):DJ .shr k (a:Int) k' (n:Int)=some (.int k ((a/2^n:Nat):Int)):=by
 simp only[DJ];rw[if_neg (by omega),Int.toNat_natCast,Nat.min_eq_left hn,Int.fdiv_eq_ediv_of_nonneg _ (Int.le_of_lt (Int.pow_pos (by omega)))];simp
theorem YV {k:IntKind} {n:Nat} (hn:n<=k.bits) (hk:K (.int k (k.wrap ((a*2^n:Nat):Int)))):AD .shl k (a:Int) k' (n:Int) K:=⟨_,Vp hn,hk⟩
theorem OG {k:IntKind} {n:Nat} (hn:n<=k.bits) (hk:K (.int k ((a/2^n:Nat):Int))):AD .shr k (a:Int) k' (n:Int) K:=⟨_,Vr hn,hk⟩
theorem NP (h:a<=4294967295) (hk:K (.int .u64 ((a*4294967296:Nat):Int))):AD .shl .u64 (a:Int) k' 32 K:=by
 refine YV (n:=32) (by decide) ?_;rw[Vf,show a*2^32%18446744073709551616=a*4294967296 by omega];exact hk
theorem FF (hk:K (.int .u64 ((a/4294967296:Nat):Int))):AD .shr .u64 (a:Int) k' 32 K:=OG (n:=32) (by decide) hk
theorem VX (hk:K (.int .u64 ((a/9223372036854775808:Nat):Int))):AD .shr .u64 (a:Int) k' 63 K:=OG (n:=63) (by decide) hk
theorem uC (hk:K (.int .u64 ((a/4:Nat):Int))):AD .shr .u64 (a:Int) k' 2 K:=OG (n:=2) (by decide) hk
theorem uB (hk:K (.int .u32 ((a/65536:Nat):Int))):AD .shr .u32 (a:Int) k' 16 K:=OG (n:=16) (by decide) hk
theorem uD (hk:K (.int .u32 ((a/256:Nat):Int))):AD .shr .u32 (a:Int) k' 8 K:=OG (n:=8) (by decide) hk
theorem uA (hk:K (.int .u32 ((a/2:Nat):Int))):AD .shr .u32 (a:Int) k' 1 K:=OG (n:=1) (by decide) hk
theorem bX (w n:Nat):(BitVec.ofInt w (n:Int)).toNat=n%2^w:=by rw[BitVec.toNat_ofInt];omega
theorem Ud {n x y:Nat} (hx:x%2^n=0) (hy:y<2^n):x ||| y=x+y:=by
 have e:x=2^n*(x/2^n):=by have:=Nat.mod_add_div x (2^n);omega
 rw[e,<-Nat.two_pow_add_eq_or_of_lt hy]
theorem YU {k:IntKind} (n:Nat) (hx:a%2^n=0) (hy:b<2^n) (h:a+b<2^k.bits) (hw:k.wrap ((a+b:Nat):Int)=((a+b:Nat):Int)) (hk:K (.int k ((a+b:Nat):Int))):AD .or k (a:Int) k (b:Int) K:=by
 refine VT (v := .int k (k.wrap (BitVec.ofInt k.bits (a:Int) ||| BitVec.ofInt k.bits (b:Int)).toNat)) (by simp only[DJ,if_true]) ?_;rw[BitVec.toNat_or,bX,bX,Nat.mod_eq_of_lt (by omega),Nat.mod_eq_of_lt (by omega),Ud hx hy,hw];exact hk
theorem OE (h:a%4294967296=0/\b<4294967296/\a+b<=18446744073709551615) (hk:K (.int .u64 ((a+b:Nat):Int))):AD .or .u64 (a:Int) .u64 (b:Int) K :=
 YU 32 h.1 h.2.1 (show a+b<18446744073709551616 by omega) (IntWalk.u64_in _ (by omega)) hk
theorem eK (h:a<=18446744073709551615) (hk:K (.int .u64 ((a%4294967296:Nat):Int))):AD .and .u64 (a:Int) .u64 4294967295 K:=by
 refine VT (v := .int .u64 (IntKind.u64.wrap (BitVec.ofInt IntKind.u64.bits (a:Int) &&& BitVec.ofInt IntKind.u64.bits 4294967295).toNat)) (by simp only[DJ,if_true]) ?_;rw[BitVec.toNat_and,bX,show (BitVec.ofInt IntKind.u64.bits 4294967295).toNat=2^32-1 by decide,Nat.and_two_pow_sub_one_eq_mod,show a%2^IntKind.u64.bits=a from Nat.mod_eq_of_lt (show a<18446744073709551616 by omega),IntWalk.u64_in _ (by omega)];exact hk
theorem eJ (hk:K (.int .u32 (((a+b)%4294967296:Nat):Int))):AD .add .u32 (a:Int) .u32 (b:Int) K :=
 VT (v := .int .u32 (IntKind.u32.wrap ((a:Int)+b))) (by simp only[DJ,if_true]) (by rw[<-Int.natCast_add,wrap_u32];exact hk)
end
section
variable {K:Int->Prop} {n:Nat}
theorem eE (h:n<=18446744073709551615) (hk:K (n:Int)):A0 .u64 (n:Int) K:=S6 (IntWalk.u64_in _ (by omega)) hk
theorem D9 (h:n<=4294967295) (hk:K (n:Int)):A0 .u32 (n:Int) K:=S6 (IntWalk.u32_in _ (by omega)) hk
theorem FP (hk:K ((n%4294967296:Nat):Int)):A0 .u32 (n:Int) K:=⟨by rw[wrap_u32];exact hk⟩
theorem tU (h:n<=255) (hk:K (n:Int)):A0 .u8 (n:Int) K:=S6 (IntWalk.u8_in _ (by omega)) hk
end
theorem V3 {tb:List Nat} {n v:Nat} {K:Nat->Prop} (hv:tb[n]? = some v) (hk:K v):P6 tb (n:Int) K:=⟨by omega,v,by rw[Int.toNat_natCast];exact hv,hk⟩
abbrev AL (n:Nat):List AV:=[.int .u32 (n:Int)]
theorem CQ (l:List Nat):F9 (l.map AL):=WF (λ_=>by simp [C6,A6]) l
section
variable {l:List Nat} {K:List AV->Prop}
theorem VZ {n:Nat} (hD:AY l) (hn:n<l.length) (h : ∀ e,l[n]? = some e->e<4294967296->K (AL e)):AW (l.map AL) (n:Int) 1 K :=
 uM hn (λ_=>rfl) λ e he=>h e he (hD.at he)
theorem O8 {a:Int} (hD:AY l) (hn:0<=a/\a<l.length) (h : ∀ e,l[a.toNat]? = some e->e<4294967296->K (AL e)):AW (l.map AL) a 1 K :=
 YY hn (λ_=>rfl) λ e he=>h e he (hD.at he)
theorem eI {i:Nat} (hD:AY l) (hi:i<l.length) (h : ∀ e,l[i]? = some e->e<4294967296->K (AL e)):A9 (l.map AL) (0+((i:Int)).toNat) 0 1 K :=
 TA (f:=AL) hi (λ_=>rfl) λ e he=>h e he (hD.at he)
theorem P2 {i:Int} (hD:AY l) (hi:0<=i/\i<l.length) (h : ∀ e,l[i.toNat]? = some e->e<4294967296->K (AL e)):A9 (l.map AL) (0+i.toNat) 0 1 K :=
 P3 (f:=AL) hi (λ_=>rfl) λ e he=>h e he (hD.at he)
theorem E8 {i v:Nat} {KK:List (List AV)->Prop} (hi:i<l.length) (h:KK ((l.set i v).map AL)):BD (l.map AL) (0+((i:Int)).toNat) 0 [.int .u32 (v:Int)] KK:=F3 (enc:=AL) v rfl (λ_=>rfl) hi h
theorem V2 {i v:Nat} {KK:List (List AV)->Prop} (n:Nat) (hn:i=n) (hi:n<l.length) (h:KK ((l.set n v).map AL)):BD (l.map AL) i 0 [.int .u32 (v:Int)] KK:=TG (enc:=AL) n v hn rfl (λ_=>rfl) hi h
end
end Go.e9
namespace Go.e9
variable {L:Lib}
theorem Ev.xE {f:Nat} {fn:AFn} {vs:List AV} {P:AV->Prop} (hL:L f=some fn) (hp:Nat.beq vs.length fn.af=true) (hd:IY vs=true) (h:AA L [.code fn.body] (CR 0 vs) [] (λ tm M => ∃ r,NQ fn r tm M/\P r)) (hs:fn.mj=false:=by rfl) : ∃ r,Ev L f vs r/\P r:=by
 obtain ⟨n,c,j9,hr,σ,tm,M,hR,r,hq,hP⟩:=h (λ_ _=>(0,0)) ⟨CR 0 vs,AH.emp⟩ ⟨λ j=>Or.inr (by rw[JL];exact TT hd j),⟨(λ_ _ _ e=>by cases e),(λ_ _ _ e=>by simp [c6,c8]at e),(λ_ _ _ e=>by simp [c6,c8]at e),(λ_ _ _ _ _ _ e=>by simp [c6,c8]at e),(λ_ _ _ e=>by simp [c6,c8]at e)⟩⟩;exact ⟨r,Ev.fwd hL (BJ.1 hp) ⟨n,c,j9,hr,eT hR hq⟩ hs,hP⟩
def SP:DT->Bool
 | .ah .. | .box .. | .alloc .. | .c4 .. | .st .. | .mk .. | .app .. | .e8 .. | .o0 .. | .kz .. | .m6 .. | .v9 .. | .bg .. => false
 | _=>true
def HU:BF->Bool
 | .skip=>true
 | .ops l _=>l.all λ a=>SP a.op
 | .dr c _ ss=>HU c&&ss.isEmpty
 | .scope c=>HU c
 | .seq a b=>HU a&&HU b
 | .cond _ a b=>HU a&&HU b
 | .block _ c=>HU c
 | .loop c=>HU c
 | .exit _=>true
 | .ret=>true
def OS:It->Bool
 | .code c=>HU c
 | .lf _ ss=>ss.isEmpty
 | .e6 _=>true
 | .lp c=>HU c
theorem La {C:Cl} {c5:List Nat} {ρ:AP->AV} {own:AH} {op:DT} {E:B7} (ho:SP op=true) (h:e7 C c5 ρ own op=some E) : ∃ v,E = .val v:=by
 cases op<;>first|(simp [SP]at ho;done)|skip
 all_goals simp only[e7]at h
 all_goals
  first
   | (simp only[Option.some.injEq]at h;exact ⟨_,h.symm⟩)
   | (simp only[Option.map_eq_some_iff]at h;obtain ⟨_,_,rfl⟩:=h;exact ⟨_,rfl⟩)
   | skip
 all_goals (repeat' split at h)
 all_goals
  first
   | (cases h;done)
   | (simp only[Option.some.injEq]at h;exact ⟨_,h.symm⟩)
   | (simp only[Option.map_eq_some_iff]at h;obtain ⟨_,_,rfl⟩:=h;exact ⟨_,rfl⟩)
theorem Wg {C:Cl} {a:AI} (ho:SP a.op=true) {s s':St} (h:C1 C a s=some s'):s'.own=s.own:=by
 unfold C1 at h;split at h
 ·cases he:e7 C a.c5 s.ev s.own a.op with
  | none=>rw[he]at h;cases h
  | some E =>
   rw[he]at h;obtain ⟨v,rfl⟩:=La ho he;simp only[Option.map_some,Option.some.injEq]at h;subst h;simp only[St.app];cases a.dst<;>rfl
 ·simp only[Option.some.injEq]at h
  subst h;cases a.dst<;>rfl
 ·cases h
theorem qS {C:Cl} : ∀ {l:List AI},(l.all λ a=>SP a.op)=true -> ∀ {s s':St},DE C l s=some s'->s'.own=s.own
 | [],_,s,s',h=>by simp only[DE,Option.some.injEq]at h;rw[h]
 | a::l,ho,s,s',h=>by
  simp only[List.all_cons,Bool.and_eq_true]at ho;simp only[DE]at h;cases h1:C1 C a s with
  | none=>rw[h1]at h;cases h
  | some s1 =>
   rw[h1]at h;rw[qS ho.2 h,Wg ho.1 h1]
theorem T8 {id:Nat} : ∀ {k k':List It},k.all OS=true->FG id k=some k'->k'.all OS=true
 | [],_,_,h=>by simp [FG]at h
 | it::k,k',hk,h=>by
  simp only[List.all_cons,Bool.and_eq_true]at hk;cases it with
  | e6 i =>
   simp only[FG]at h;split at h
   ·cases h;exact hk.2
   ·exact T8 hk.2 h
  | code c=>simp only[FG]at h;exact T8 hk.2 h
  | lf a b=>simp only[FG]at h;exact T8 hk.2 h
  | lp c=>simp only[FG]at h;exact T8 hk.2 h
theorem IA {C:Cl} : ∀ (n:Nat) {k:List It},k.all OS=true -> ∀ {s s':St},run C n k s=some s'->s'.own=s.own
 | 0,k,_,s,s',h=>by simp [run]at h
 | n+1,[],_,s,s',h=>by
  simp only[run,Option.some.injEq]at h;rw[h]
 | n+1,it::k,hk,s,s',h=>by
  have fm:=hk;simp only[List.all_cons,Bool.and_eq_true]at hk;obtain ⟨hi,hk⟩:=hk;cases it with
  | e6 _=>simp only[run]at h;exact IA n hk h
  | lf ts ss =>
   have:ss=[]:=by simpa [OS] using hi
   subst this;simp only[run]at h;rw[IA n hk h];rfl
  | lp c=>simp only[run]at h;exact IA n (by simp only[List.all_cons,Bool.and_eq_true];exact ⟨hi,hi,hk⟩) h
  | code c =>
   cases c with
   | skip=>simp only[run]at h;exact IA n hk h
   | ops l d =>
    simp only[run]at h;cases h1:DE C l s with
    | none=>rw[h1]at h;cases h
    | some s1 =>
     rw[h1]at h;rw[IA n hk h,qS (show (l.all λ a=>SP a.op)=true from hi) h1]
   | dr c ts ss =>
    simp only[run]at h;simp only[OS,HU,Bool.and_eq_true]at hi;exact IA n (by simp only[List.all_cons,Bool.and_eq_true];exact ⟨hi.1,hi.2,hk⟩) h
   | scope c=>simp only[run]at h;exact IA n (by simp only[List.all_cons,Bool.and_eq_true];exact ⟨hi,hk⟩) h
   | seq a b =>
    simp only[run]at h;simp only[OS,HU,Bool.and_eq_true]at hi;exact IA n (by simp only[List.all_cons,Bool.and_eq_true];exact ⟨hi.1,hi.2,hk⟩) h
   | cond x a b =>
    simp only[OS,HU,Bool.and_eq_true]at hi;simp only[run]at h;split at h
    ·exact IA n (by simp only[List.all_cons,Bool.and_eq_true];exact ⟨hi.1,hk⟩) h
    ·exact IA n (by simp only[List.all_cons,Bool.and_eq_true];exact ⟨hi.2,hk⟩) h
    ·cases h
   | block id c=>simp only[run]at h;exact IA n (by simp only[List.all_cons,Bool.and_eq_true];exact ⟨hi,rfl,hk⟩) h
   | loop c=>simp only[run]at h;exact IA n (by simp only[List.all_cons,Bool.and_eq_true];exact ⟨hi,hi,hk⟩) h
   | exit id =>
    simp only[run]at h;split at h
    ·rename_i k' he
     exact IA n (T8 hk he) h
    ·cases h
   | ret =>
    simp only[run,Option.some.injEq]at h;rw[h]
def uO (fn:AFn) (r:AV) (tm:Tm) (_M:Mem):Prop := ∃ rs,PO tm fn.res=some rs/\HN rs=r
def WM:AV->Bool
 | .j4 vs=>IY vs
 | v=>PB v
theorem iB {σ:FU} {v:AV} (h:WM v=true):BC σ v=v:=by
 cases v with
 | j4 vs =>
  simp only[BC];congr 1;simp only[WM]at h;induction vs with
  | nil=>rfl
  | cons v r ih =>
   simp only[IY]at h;cases hv:PB v<;>simp only[hv,cond_true,cond_false]at h
   ·cases h
   ·rw[List.map_cons,ih h]
    congr 1;cases v<;>first|rfl|(simp [PB,pj]at hv;done)|skip
    rename_i cs;exact WL (σ:=σ) (v := .agg cs) hv
 | _=>exact WL (σ:=σ) h
def TD (L:Lib) (f:Nat) (vs:List AV) (r:AV):Prop:=WM r=true/\(∀ σ:FU,vs.map (BC σ)=vs) /\ ∀ own:AH,GJ L f vs own r own
theorem hJ {σ:FU} : ∀ {vs:List AV},IY vs=true->vs.map (BC σ)=vs
 | [],_=>rfl
 | v::r,h=>by
  simp only[IY]at h;cases hv:PB v<;>simp only[hv,cond_true,cond_false]at h
  ·cases h
  ·rw[List.map_cons,WL hv,hJ h]
theorem uQ {f:Nat} {fn:AFn} {vs:List AV} {r:AV} (hL:L f=some fn) (hp:Nat.beq vs.length fn.af=true) (hd:IY vs=true) (Bf:HU fn.body=true) (l7:U3 100000 fn.res=true) (hr:WM r=true) (h:AA L [.code fn.body] (CR 0 vs) [] (uO fn r)):TD L f vs r:=by
 refine ⟨hr,λ σ=>hJ hd,λ own => ?_⟩;obtain ⟨n,c,j9,q6,σ,tm,M,hR,rs,Gc,he⟩:=h (λ_ _=>(0,0)) ⟨CR 0 vs,own⟩ ⟨λ j=>Or.inr (by rw[JL];exact TT hd j),⟨(λ_ _ _ e=>by cases e),(λ_ _ _ e=>by simp [c6,c8]at e),(λ_ _ _ e=>by simp [c6,c8]at e),(λ_ _ _ _ _ _ e=>by simp [c6,c8]at e),(λ_ _ _ e=>by simp [c6,c8]at e)⟩⟩;have ho:=IA n (by simp [OS,Bf]) q6;obtain ⟨i1,i2⟩:=cN (N:=100000) (s:=j9) hR (λ_ _=>rfl) l7 Gc;refine GJ.intro hL (BJ.1 hp) ⟨n,c,j9,q6,?_,ho⟩;rw[i1,Option.map_some,pJ i2,he,iB hr]
theorem JP {f:Nat} {vs:List AV} {r:AV} {tm:Tm} {M:Mem} {K:AV->Mem->Prop} (h:TD L f vs r) (hk:K r M):BA L f vs tm M K:=by
 intro σ own hs;refine ⟨r,own,σ,M,?_,hs,λ_=>rfl,hk⟩;rw[h.2.1 σ,iB h.1];exact h.2.2 own
end Go.e9

namespace Go.e9
variable {L:Lib}
def P5 (fn:AFn) (z:Nat) (es:List (List AV)) (tm:Tm) (M:Mem):Prop:=match fn.res with
 | [.tmp t]=>match tg tm t with
  | .row k 0 z' 0 n=>match c8 M k with
   | some (_,.rw az es')=>z'=z/\az=z/\n=es.length/\es'=es/\F9 es
   | _=>False
  | _=>False
 | _=>False
theorem FR.x {f:Nat} {fn:AFn} {vs:List AV} {z:Nat} {es:List (List AV)} (hL:L f=some fn) (hp:Nat.beq vs.length fn.af=true) (hd:IY vs=true) (h:AA L [.code fn.body] (CR 0 vs) [] (P5 fn z es)):FR L f vs z es:=by
 obtain ⟨n,c,j9,hr,σ,tm,M,hR,hq⟩:=h (λ_ _=>(0,0)) ⟨CR 0 vs,AH.emp⟩ ⟨λ j=>Or.inr (by rw[JL];exact TT hd j),⟨(λ_ _ _ e=>by cases e),(λ_ _ _ e=>by simp [c6,c8]at e),(λ_ _ _ e=>by simp [c6,c8]at e),(λ_ _ _ _ _ _ e=>by simp [c6,c8]at e),(λ_ _ _ e=>by simp [c6,c8]at e)⟩⟩;unfold P5 at hq;split at hq
 ·rename_i t jk
  split at hq
  ·rename_i k z' m Cx
   split at hq
   ·rename_i s az es' hM
    obtain ⟨rfl,rfl,rfl,rfl,j6⟩:=hq;have hv:g6 j9.tm t = .row (σ k 0).1 (σ k 0).2 az 0 es'.length:=by
     rcases hR.tm t with e|e
     ·rw[Cx]at e;cases e
     ·rw[e,Cx];rfl
    have hb:=hR.sat.e6 k 0 (.rw az es') (by simp only[c6,hM]);obtain ⟨q,hq⟩:=GJ.intro (r := .row (σ k 0).1 (σ k 0).2 az 0 es'.length) (o':=j9.own) hL (BJ.1 hp) ⟨n,c,j9,hr,by simp [jk,E6,hv,H8,HN],rfl⟩;refine ⟨q,?_⟩;simp only[hq,NT,AH.get,hb];rw[if_pos (show (A7.e6 σ k (.rw az es')).es.length=es'.length/\F9 (A7.e6 σ k (.rw az es')).es from ⟨rfl,j6⟩)];rfl
   ·exact hq.elim
  ·exact hq.elim
 ·exact hq.elim
theorem D5 {α:Type} {enc:α->List AV} {l:List α} {f z:Nat} {vs:List AV} {K:Nat->List (List AV)->Nat->Prop} (n:Nat) (h:FR L f vs z (l.map enc)) (hn:n=l.length) (hk:K z (l.map enc) n):CF L f vs K:=⟨z,_,n,h,by simpa using hn,hk⟩
end Go.e9

namespace Go.e9
theorem rP {A w C:List Nat} {i n:Nat} (hi:i=A.length+n) (hn:n<w.length):(A++w++C)[i]? = w[n]? := by
 subst hi;rw[List.append_assoc,List.getElem?_append_right (by omega),Nat.add_sub_cancel_left,List.getElem?_append_left hn]
theorem Vb {A w C:List Nat} {i n v:Nat} (hi:i=A.length+n) (hn:n<w.length):(A++w++C).set i v=A++w.set n v++C:=by
 subst hi;rw[List.append_assoc,List.set_append_right _ _ (by omega),Nat.add_sub_cancel_left,List.set_append_left _ _ hn,List.append_assoc]
theorem NS {A w C:List Nat} {i v:Nat} {KK:List (List AV)->Prop} (n:Nat) (hi:i=A.length+n) (hn:n<w.length) (h:KK ((A++w.set n v++C).map AL)):BD ((A++w++C).map AL) i 0 [.int .u32 (v:Int)] KK:=by
 have hl:i<(A++w++C).length:=by simp;omega
 refine TG (enc:=AL) i v rfl rfl (λ_=>rfl) hl ?_;rw[Vb hi hn];exact h
theorem Qd {W X Vi p q u d c b pr t:Nat} (h:W+q*Vi=X+p*(c+b)) (ib:pr=q*d+c) (ht:t=EG (EG u (pr%4294967296)) b) (hu:u<4294967296) (hb:b<=1) :
  W+p*(t%4294967296)+q*(Vi+p*d)=X+p*u+p*4294967296*(pr/4294967296+t/9223372036854775808):=by
 obtain ⟨h1,_⟩:=YF hu (show pr%4294967296<4294967296 by omega) hb;rw[<-ht]at h1;have h2:=Nat.mod_add_div pr 4294967296;generalize t%4294967296=w at *;generalize t/9223372036854775808=b' at *;generalize pr%4294967296=pl at *;generalize pr/4294967296=ph at *;have e1:p*(w+pl+b)=p*(u+4294967296*b'):=by rw[h1]
 have e2:p*(pl+4294967296*ph)=p*(q*d+c):=by rw[h2,ib]
 grind
theorem nZ {q d c pr:Nat} (hq:q<4294967296) (hd:d<4294967296) (hc:c<4294967296) (ib:pr=q*d+c):pr/4294967296<4294967296/\pr<=18446744073709551615/\q*d<=18446744065119617025:=by
 have:=SM hq hd
 omega
theorem Qb {W X V p q u c b t:Nat} (h:W+q*V=X+p*(c+b)) (ht:t=EG (EG u c) b) (hu:u<4294967296) (hc:c<4294967296) (hb:b<=1) :
  W+p*(t%4294967296)+q*V=X+p*u+p*4294967296*(t/9223372036854775808):=by
 obtain ⟨h1,_⟩:=YF hu hc hb;rw[<-ht]at h1;generalize t%4294967296=w at *;generalize t/9223372036854775808=b' at *;have e1:p*(w+c+b)=p*(u+4294967296*b'):=by rw[h1]
 grind
theorem Tl {W X Vi p q u d c b pr w take have' bj:Nat} (h:W+q*Vi=X+p*(c+b)) (ib:pr=c+q*d) (h1:take=pr%4294967296+b) (h2:(have'=u/\bj=0/\take<=u)\/(have'=u+4294967296/\bj=1/\u<take)) (h3:w+take=have') :
  W+p*w+q*(Vi+p*d)=X+p*u+p*4294967296*(pr/4294967296+bj):=by
 have h4:=Nat.mod_add_div pr 4294967296;have h5:w+pr%4294967296+b=u+4294967296*bj:=by omega
 generalize pr%4294967296=pl at *;generalize pr/4294967296=ph at *;have e1:p*(w+pl+b)=p*(u+4294967296*bj):=by rw[h5]
 have e2:p*(pl+4294967296*ph)=p*(c+q*d):=by rw[h4,ib]
 grind
theorem Qc {W X V p q u c b w take have' bj:Nat} (h:W+q*V=X+p*(c+b)) (h1:take=c+b) (h2:(have'=u/\bj=0/\take<=u)\/(have'=u+4294967296/\bj=1/\u<take)) (h3:w+take=have') :
  W+p*w+q*V=X+p*u+p*4294967296*bj:=by
 have h5:w+c+b=u+4294967296*bj:=by omega
 have e1:p*(w+c+b)=p*(u+4294967296*bj):=by rw[h5]
 grind
theorem fE {W X Vi p w d c t:Nat} (h:W+p*c=X+Vi) (ht:t=w+d+c):W+p*(t%4294967296)+p*4294967296*(t/4294967296)=X+p*w+(Vi+p*d):=by
 have h1:=OL W p t;have e:p*t=p*w+p*d+p*c:=by rw[ht];grind
 omega
theorem fD {W X V R p w c:Nat} (h:W+p*c=X+V) (hX:X+p*w+V=R+p*4294967296) (hR:R<p*4294967296) (hW:W<p):W+p*((w+c)%4294967296)=R:=by
 have h1:W+p*(w+c)=R+p*4294967296:=by
  rw[Nat.mul_add];omega
 have h2:=Nat.mod_add_div (w+c) 4294967296;have h3:p*(w+c)=p*((w+c)%4294967296)+p*4294967296*((w+c)/4294967296):=by
  rw[Nat.mul_assoc,<-Nat.mul_add,h2]
 have h4:(w+c)%4294967296<4294967296:=Nat.mod_lt _ (by omega);generalize (w+c)%4294967296=m at *;generalize (w+c)/4294967296=k at *;have h5:W+p*m<p*4294967296:=by
  have:p*m+p<=p*4294967296:=by rw[<-Nat.mul_succ];exact Nat.mul_le_mul_left p (by omega)
  omega
 have h6:k=1:=by
  rcases Nat.lt_trichotomy k 1 with hk|hk|hk
  ·have:k=0:=by omega
   subst this;omega
  ·exact hk
  ·have:p*4294967296*2<=p*4294967296*k:=Nat.mul_le_mul_left _ (by omega)
   omega
 subst h6;omega
theorem Uv {U V UL VL p u2 v2 v1 top:Nat} (hU:U=UL+p*(u2+4294967296*top)) (hV:V=VL+p*(v2+4294967296*v1)) (sd:VL<p) (h2:v2<4294967296) (h:U<4294967296*V):top<4294967296*(v1+1):=by
 have h3:V<p*(4294967296*(v1+1)):=by
  have:p*(v2+4294967296*v1)+p<=p*(4294967296*(v1+1)):=by
   rw[<-Nat.mul_succ];exact Nat.mul_le_mul_left p (by omega)
  omega
 have h4:p*(4294967296*top)<=U:=by
  have:p*(4294967296*top)<=p*(u2+4294967296*top):=Nat.mul_le_mul_left p (by omega)
  omega
 have h5:p*(4294967296*top)<p*(4294967296*(4294967296*(v1+1))):=by
  have:p*(4294967296*(4294967296*(v1+1)))=4294967296*(p*(4294967296*(v1+1))):=by grind
  omega
 have:=Nat.lt_of_mul_lt_mul_left h5
 omega
structure Gs (U V v1 v2 u2 top q r:Nat):Prop where
 hq:q*v1+r=top
 hr:r<4294967296
 ge:U/V<=q
theorem Gs.next {U V UL VL p v1 v2 u2 top q r:Nat} (g:Gs U V v1 v2 u2 top q r) (hU:U=UL+p*(u2+4294967296*top)) (hV:V=VL+p*(v2+4294967296*v1)) (yg:UL<p) (ae:0<V) (Cf:U<4294967296*V)
  (h:4294967296<=q\/r*4294967296+u2<q*v2):1<=q/\(q-1)*v1+(r+v1)=top/\U/V<=q-1:=by
 have h1:U/V<q:=by
  rcases h with h|h
  ·exact Oi Cf h ae
  ·exact Oj hU hV yg g.hq h ae
 have hq:=g.hq;clear h g hU hV Cf;generalize U/V=Q at *;obtain ⟨k,rfl⟩ : ∃ k,q=k+1:=⟨q-1,by omega⟩;refine ⟨by omega,?_,by omega⟩;rw[Nat.add_sub_cancel,<-hq,Nat.add_mul];omega
theorem Gs.start {U V UL VL p v1 v2 u2 top:Nat} (hU:U=UL+p*(u2+4294967296*top)) (hV:V=VL+p*(v2+4294967296*v1)) (yg:UL<p) (h2:u2<4294967296) (ae:0<V) (h1:0<v1) (h1b:v1<4294967296):Gs U V v1 v2 u2 top (top/v1) (top%v1):=by
 refine ⟨by rw[Nat.mul_comm];exact Nat.div_add_mod _ _,?_,?_⟩
 ·have:=Nat.mod_lt top h1
  omega
 ·rw[Nat.le_div_iff_mul_le h1]
  exact Ol hU hV yg h2 ae
theorem SE {U V UL VL p v1 v2 u2 top q r:Nat} (hU:U=UL+p*(u2+4294967296*top)) (hV:V=VL+p*(v2+4294967296*v1)) (sd:VL<p) (Cz:2147483648<=v1) (Da:v2<4294967296) (Cf:U<4294967296*V) (hq:q*v1+r=top)
  (h:(q<4294967296/\q*v2<=r*4294967296+u2)\/4294967296<=r):q<4294967296/\q<=U/V+1:=by
 rcases h with ⟨h1,h2⟩|h
 ·exact ⟨h1,lS hU hV sd Cz hq h2 h1⟩
 ·have ht:=Uv hU hV sd Da Cf
  have yq:q<4294967296:=by
   have h3:q*v1<4294967296*v1:=by omega
   exact Nat.lt_of_mul_lt_mul_right h3
  refine ⟨yq,lS hU hV sd Cz hq ?_ yq⟩;have:=SM yq Da
  omega
theorem RI (a:List Nat) (k:Nat):val a=val (a.take k)+4294967296^k*val (a.drop k):=by
 rcases Nat.lt_or_ge a.length k with h|h
 ·rw[zT (by omega),List.drop_of_length_le (by omega),IE];omega
 ·exact JN a k h
theorem RH (a:List Nat) (k:Nat):val (a.drop k)=a.getD k 0+4294967296*val (a.drop (k+1)):=by
 rcases Nat.lt_or_ge k a.length with h|h
 ·rw[G3 (zE h),List.getD_eq_getElem?_getD,zE h];rfl
 ·rw[List.drop_of_length_le h,List.drop_of_length_le (by omega),List.getD_eq_getElem?_getD,List.getElem?_eq_none h];rfl
theorem PH {a:List Nat} (h:AY a) (k:Nat):a.getD k 0<4294967296:=by
 rw[List.getD_eq_getElem?_getD];cases e:a[k]? with
 | none=>simp
 | some d=>simpa using h.at e
theorem getD_some {a:List Nat} {k d:Nat} (h:a[k]? = some d):d=a.getD k 0:=by rw[List.getD_eq_getElem?_getD,h];rfl
theorem PI {a:List Nat} {k:Nat} (h:a.length<=k):0=a.getD k 0:=by rw[List.getD_eq_getElem?_getD,List.getElem?_eq_none h];rfl
theorem YN {a:List Nat} (hD:AY a) {n:Nat} (hn:3<=n) (hl:a.length<=n) : ∃ r,r<4294967296^(n-3)/\val a=r+4294967296^(n-3)*(a.getD (n-3) 0+4294967296*(a.getD (n-2) 0+4294967296*a.getD (n-1) 0)):=by
 refine ⟨val (a.take (n-3)),?_,?_⟩
 ·refine Nat.lt_of_lt_of_le (E2 (hD.take _)) (Nat.pow_le_pow_right (by omega) ?_)
  rw[List.length_take];omega
 ·have h1:=RI a (n-3)
  have h2:=RH a (n-3);have h3:=RH a (n-3+1);have h4:=RH a (n-3+1+1);rw[List.drop_of_length_le (show a.length<=n-3+1+1+1 by omega),IE]at h4;rw[show n-3+1=n-2 by omega]at *;rw[show n-2+1=n-1 by omega]at *;rw[h4,Nat.mul_zero,Nat.add_zero]at h3;rw[h3]at h2;rw[h2]at h1;exact h1
theorem rM {a:List Nat} (hD:AY a) {n:Nat} (hn:2<=n) (hl:a.length<=n) : ∃ r,r<4294967296^(n-2)/\val a=r+4294967296^(n-2)*(a.getD (n-2) 0+4294967296*a.getD (n-1) 0):=by
 refine ⟨val (a.take (n-2)),?_,?_⟩
 ·refine Nat.lt_of_lt_of_le (E2 (hD.take _)) (Nat.pow_le_pow_right (by omega) ?_)
  rw[List.length_take];omega
 ·have h1:=RI a (n-2)
  have h2:=RH a (n-2);have h3:=RH a (n-2+1);rw[List.drop_of_length_le (show a.length<=n-2+1+1 by omega),IE]at h3;rw[show n-2+1=n-1 by omega]at *;rw[h3,Nat.mul_zero,Nat.add_zero]at h2;rw[h2]at h1;exact h1
theorem PC {a b:Nat} (h:a<=b):(dg a).length<=(dg b).length:=by
 rcases Nat.lt_or_ge (dg b).length (dg a).length with h1|h1
 ·have:=S3 h1;omega
 ·exact h1
theorem ZK {p:Nat} (h:p<18446744073709551616):val [p%4294967296,p/4294967296]=p/\AY [p%4294967296,p/4294967296]:=by
 refine ⟨by simp [val];omega,λ x hx => ?_⟩;simp at hx;omega
theorem GM {a:List Nat} {k d:Nat} (h:a[k]? = some d):a.getD k 0=d:=(getD_some h).symm
theorem aZ {y:List Nat} {s yt:Nat} (hD:AY y) (tk:y[y.length-1]? = some yt) (hl:1<=y.length) (hs:s<=31) (b3:2147483648<=yt*2^s) (b4:yt*2^s<4294967296):val y*2^s<4294967296^y.length/\4294967296^(y.length-1)*2147483648<=val y*2^s:=by
 have h1:=JN y (y.length-1) (by omega);have h2:=G3 tk;rw[List.drop_of_length_le (show y.length<=y.length-1+1 by omega),IE,Nat.mul_zero,Nat.add_zero]at h2;rw[h2]at h1;have h3:=E2 (hD.take (y.length-1));rw[List.length_take,Nat.min_eq_left (by omega)]at h3;have e:4294967296^y.length=4294967296^(y.length-1)*4294967296:=by rw[<-Nat.pow_succ,Nat.succ_eq_add_one,show y.length-1+1=y.length by omega]
 rw[e];generalize 4294967296^(y.length-1)=p at *;have hk:(yt+1)*2^s<=4294967296:=by
  have e2:4294967296=2^s*2^(32-s):=by rw[<-Nat.pow_add,show s+(32-s)=32 by omega]
  rw[e2,Nat.mul_comm]at b4;have:=Nat.lt_of_mul_lt_mul_left b4
  rw[e2,Nat.mul_comm];exact Nat.mul_le_mul_left _ this
 have h4:val y+1<=p*(yt+1):=by rw[Nat.mul_add];omega
 have h5:=zR (2^s) h4;have h6:p*((yt+1)*2^s)<=p*4294967296:=Nat.mul_le_mul_left p hk;rw[<-Nat.mul_assoc]at h6;have h7:p*2147483648<=p*(yt*2^s):=Nat.mul_le_mul_left p b3;have h8:p*(yt*2^s)<=val y*2^s:=by rw[<-Nat.mul_assoc];exact zR _ (by omega)
 have h9:=Nat.two_pow_pos s;rw[Nat.add_mul]at h5;exact ⟨by omega,by omega⟩
theorem rI {v:List Nat} {k c d:Nat} (hD:AY v) (hl:v.length=k+1) (h:4294967296^k*c<=val v) (hd:v[k]? = some d):c<=d:=by
 have h1:=JN v k (by omega);have h2:=G3 hd;rw[List.drop_of_length_le (show v.length<=k+1 by omega),IE,Nat.mul_zero,Nat.add_zero]at h2;rw[h2]at h1;have h3:=E2 (hD.take k);rw[List.length_take,Nat.min_eq_left (by omega)]at h3;generalize 4294967296^k=p at *;have h4:p*c<p*(d+1):=by rw[Nat.mul_add];omega
 have:=Nat.lt_of_mul_lt_mul_left h4
 omega
theorem iZ (o:List Nat) (j n:Nat) (h:j+n<=o.length) : ∃ A W C,A.length=j/\W.length=n/\o=A++W++C:=by
 refine ⟨o.take j,(o.drop j).take n,(o.drop j).drop n,by simp;omega,by simp;omega,?_⟩;rw[List.append_assoc,List.take_append_drop,List.take_append_drop]
theorem iD {A W C:List Nat} (h:AY (A++W++C)):AY A/\AY W/\AY C:=by
 refine ⟨λ x hx=>h x (by simp [hx]),λ x hx=>h x (by simp [hx]),λ x hx=>h x (by simp [hx])⟩
theorem jB {A W C:List Nat} {j l V:Nat} (hA:A.length=j) (hW:W.length=l+1) (hD:AY (A++W++C)) (h:val ((A++W++C).drop (j+1))<V) (hV:V<4294967296^l) :
  val C=0/\val W<4294967296*V/\val ((A++W++C).take (j+1))+4294967296^(j+1)*val ((A++W++C).drop (j+1))=val A+4294967296^j*val W:=by
 have h1:=RI (A++W++C) (j+1);have h2:val (A++W++C)=val A+4294967296^j*(val W+4294967296^(l+1)*val C):=by
  rw[List.append_assoc,S2,S2,hA,hW]
 have h3:=RH (A++W++C) j;have h4:(A++W++C).drop j=W++C:=by
  rw[List.append_assoc,List.drop_append_of_le_length (by omega),List.drop_of_length_le (by omega)];rfl
 have h5:=PH hD j;rw[h4,S2,hW]at h3;rw[Nat.pow_succ]at h3;have h6:val C=0:=by
  rcases Nat.eq_zero_or_pos (val C) with h0|h0
  ·exact h0
  ·have:4294967296^l*4294967296*1<=4294967296^l*4294967296*val C:=Nat.mul_le_mul_left _ h0
   omega
 rw[h6,Nat.mul_zero,Nat.add_zero]at h3;refine ⟨h6,by omega,?_⟩;rw[<-h1,h2,h6,Nat.mul_zero,Nat.add_zero]
theorem ZU {A W C:List Nat} {j:Nat} (hA:A.length=j) (hC:val C=0):val ((A++W++C).drop j)=val W/\val ((A++W++C).take j)=val A:=by
 rw[List.append_assoc,List.drop_append_of_le_length (by omega),List.drop_of_length_le (by omega),List.take_append_of_le_length (by omega),zT (by omega),List.nil_append,S2,hC];simp
theorem jA {U VA P Q q V W R:Nat} (h:U=VA+P*W+P*4294967296*(Q*V)) (h2:W=q*V+R):U=VA+P*((q+4294967296*Q)*V+R):=by
 rw[h,h2];grind
section
variable {a b:Nat} {K:AV->Prop}
theorem eL (n:Nat) (hx:a%2^n=0) (hy:b<2^n) (h:a+b<=18446744073709551615) (hk:K (.int .u64 ((a+b:Nat):Int))):AD .or .u64 (a:Int) .u64 (b:Int) K :=
 YU n hx hy (show a+b<18446744073709551616 by omega) (IntWalk.u64_in _ (by omega)) hk
theorem VV (n:Nat) (hx:b%2^n=0) (hy:a<2^n) (h:a+b<=18446744073709551615) (hk:K (.int .u64 ((a+b:Nat):Int))):AD .or .u64 (a:Int) .u64 (b:Int) K:=by
 have e:DJ .or .u64 (a:Int) .u64 (b:Int)=DJ .or .u64 (b:Int) .u64 (a:Int):=by
  simp only[DJ,if_true,BitVec.or_comm]
 rw[Nat.add_comm]at hk h;have hh:=eL (K:=K) n hx hy h hk;unfold AD at hh ⊢;rw[e];exact hh
end
theorem VU {a:Nat} {K:AV->Prop} (h:a<=18446744069414584319) (hk:K (.int .u64 ((a+4294967296:Nat):Int))):AD .add .u64 (a:Int) .u64 4294967296 K :=
 F2 (b:=4294967296) (by omega) hk
theorem IW {l:List Nat} {i e:Nat} {K:List AV->Prop} (he:l[i]? = some e) (h:K (AL e)):A9 (l.map AL) (0+((i:Int)).toNat) 0 1 K :=
 YS (e:=e) (by rw[Nat.zero_add,Int.toNat_natCast];exact he) rfl h
theorem tZ {l:List Nat} {i:Int} {e:Nat} {K:List AV->Prop} (he:l[i.toNat]? = some e) (h:K (AL e)):A9 (l.map AL) (0+i.toNat) 0 1 K :=
 YS (e:=e) (by rw[Nat.zero_add];exact he) rfl h
theorem O7 {A w C:List Nat} {i e:Nat} {K:List AV->Prop} (n:Nat) (he:w[n]? = some e) (hi:i=A.length+n) (h:K (AL e)):A9 ((A++w++C).map AL) i 0 1 K:=by
 have hn:=(zS he).1;exact YS (e:=e) (by rw[rP hi hn];exact he) rfl h
end Go.e9

namespace Go.e9
def SG (n s:Nat):Nat:=4294967296^(n-3)*(2^(32-s)*4)
theorem Qs (n s:Nat):0<SG n s:=Nat.mul_pos (Nat.pow_pos (by omega)) (Nat.mul_pos (Nat.two_pow_pos _) (by omega))
theorem mP {a:List Nat} (hD:AY a) {n s d1 d2 d3:Nat} (hn:3<=n) (hl:a.length<=n) (hs:s<=31) (h1:d1=a.getD (n-1) 0) (h2:d2=a.getD (n-2) 0) (h3:d3=a.getD (n-3) 0) :
  ((d1*4294967296+d2)*2^s+d3*2^s/4294967296)/4=val a/SG n s:=by
 obtain ⟨r,hr,hv⟩:=YN hD hn hl;rw[<-h1,<-h2,<-h3]at hv;unfold SG;rw[hv,<-Nat.div_div_eq_div_mul,Nat.add_mul_div_left _ _ (Nat.pow_pos (by omega)),Nat.div_eq_of_lt hr,Nat.zero_add,<-Nat.div_div_eq_div_mul];congr 1;have e:d3+4294967296*(d2+4294967296*d1)=d3+2^(32-s)*(2^s*(d1*4294967296+d2)):=by
  rw[<-Nat.mul_assoc,<-Nat.pow_add,show 32-s+s=32 by omega];omega
 rw[e,Nat.add_mul_div_left _ _ (Nat.two_pow_pos _)];have:=pX (d:=d3) (s:=s) (by omega)
 rw[Q5]at this;rw[this,Nat.mul_comm (2^s)];omega
theorem mQ {a:List Nat} (hD:AY a) {n s d1 d2:Nat} (hn:3<=n) (hl:a.length<=n) (h1:d1=a.getD (n-1) 0) (h2:d2=a.getD (n-2) 0) (l7:val a*2^s<4294967296^n) :
  (d1*4294967296+d2)*2^s<=18446744073709551615:=by
 obtain ⟨r,hr,hv⟩:=YN hD hn hl;rw[<-h1,<-h2]at hv;generalize a.getD (n-3) 0=d3 at *;have e:4294967296^n=4294967296^(n-3)*(4294967296*18446744073709551616):=by
  rw[show n=n-3+3 by omega,Nat.pow_add,show n-3+3-3=n-3 by omega]
 rw[e,hv]at l7;generalize 4294967296^(n-3)=p at *;have h3:p*(4294967296*((d1*4294967296+d2)*2^s))<p*(4294967296*18446744073709551616):=by
  refine Nat.lt_of_le_of_lt ?_ l7;rw[<-Nat.mul_assoc,<-Nat.mul_assoc];refine zR _ ?_;have h5:p*(4294967296*(d2+4294967296*d1))<=p*(d3+4294967296*(d2+4294967296*d1)):=Nat.mul_le_mul_left p (by omega);rw[Nat.mul_assoc,show d1*4294967296+d2=d2+4294967296*d1 by omega];omega
 have:=Nat.lt_of_mul_lt_mul_left (Nat.lt_of_mul_lt_mul_left h3)
 omega
theorem XJ {k s:Nat} (hs:s<=64) (h:k*2^s<=18446744073709551615):k*2^s+2^s<=18446744073709551616:=by
 have e:18446744073709551616=2^(64-s)*2^s:=by rw[<-Nat.pow_add,show 64-s+s=64 by omega]
 have h1:k<2^(64-s):=by
  refine Nat.lt_of_mul_lt_mul_right (a:=2^s) ?_;rw[<-e];omega
 have h2:=zR (2^s) h1;rw[Nat.succ_mul,<-e]at h2;exact h2
theorem mR {a:List Nat} (hD:AY a) {n s:Nat} (hn:3<=n) (hl:a.length<=n) (hs:s<=31) (l7:val a*2^s<4294967296^n):val a/SG n s<=4611686018427387904:=by
 rw[<-mP hD hn hl hs rfl rfl rfl];have h1:=mQ hD hn hl rfl rfl l7;have b3:=PH hD (n-3);have h2:=XJ (show s<=64 by omega) h1;obtain ⟨_,h3,_,_⟩:=Q6 (s:=s) b3 (by omega);rw[Q5]at h3;generalize (a.getD (n-1) 0*4294967296+a.getD (n-2) 0)*2^s=T at *;generalize a.getD (n-3) 0*2^s=U at *;omega
theorem mS {V K:Nat} (hK:0<K) : ∃ e:Int,(V:Int)=(K:Int)*((V/K:Nat):Int)+e/\0<=e/\e<=K:=by
 refine ⟨((V%K:Nat):Int),?_,by omega,?_⟩
 ·have:=Nat.div_add_mod V K
  have h2:((K*(V/K)+V%K:Nat):Int)=(V:Int):=by rw[this]
  rw[<-h2];simp
 ·have:=Nat.mod_lt V hK
  omega
def TR (t:Int):Nat:=(t%4294967296).toNat
theorem gN (t:Int):TR t<4294967296:=by unfold TR;omega
theorem ZE (t:Int):(TR t:Int)=t%4294967296:=by unfold TR;omega
def O6 (f g:Int):Prop:=(0<=f/\f<=2147483647 /\ -2147483647<=g/\g<=0)\/(-2147483647<=f/\f<=0/\0<=g/\g<=2147483647)
theorem pW {f:Int} {d:Nat} (hd:d<4294967296):(0<=f->f<=2147483647->0<=f*d/\f*d<=9223372030412324865)/\(f<=0 -> -2147483647<=f->f*d<=0 /\ -9223372030412324865<=f*d):=by
 constructor
 ·intro h0 h1
  refine ⟨Int.mul_nonneg h0 (by omega),?_⟩;have:f*d<=2147483647*4294967295:=Int.mul_le_mul h1 (by omega) (by omega) (by omega)
  omega
 ·intro h0 h1
  have a1:0<=(-f)*d:=Int.mul_nonneg (by omega) (by omega);have a2:(-f)*d<=2147483647*4294967295:=Int.mul_le_mul (by omega) (by omega) (by omega) (by omega);rw[Int.neg_mul]at a1 a2;omega
theorem O6.Kh {f g:Int} (h:O6 f g) {d e:Nat} (hd:d<4294967296) (he:e<4294967296):(-9223372030412324865<=f*d/\f*d<=9223372030412324865)/\(-9223372030412324865<=g*e/\g*e<=9223372030412324865) /\ -9223372030412324865<=f*d+g*e/\f*d+g*e<=9223372030412324865:=by
 obtain ⟨a1,a2⟩:=pW (f:=f) hd;obtain ⟨b1,b2⟩:=pW (f:=g) he;rcases h with ⟨h1,h2,h3,h4⟩|⟨h1,h2,h3,h4⟩
 ·have:=a1 h1 h2;have:=b2 h4 h3;omega
 ·have:=a2 h2 h1;have:=b1 h3 h4;omega
theorem gO {V X Y p c f g d e t:Int} (h:V+p*c=f*X+g*Y) (ht:t=f*d+c+g*e):V+p*(t%4294967296)+p*4294967296*(t/4294967296)=f*(X+p*d)+g*(Y+p*e):=by
 have h1:=Int.emod_add_mul_ediv t 4294967296;have h2:p*(t%4294967296)+p*4294967296*(t/4294967296)=p*t:=by
  rw[Int.mul_assoc,<-Int.mul_add,h1]
 have h3:p*t=f*(p*d)+p*c+g*(p*e):=by rw[ht];grind
 have h4:f*(X+p*d)=f*X+f*(p*d):=by rw[Int.mul_add]
 have h5:g*(Y+p*e)=g*Y+g*(p*e):=by rw[Int.mul_add]
 omega
theorem xH {V P:Nat} {c R:Int} (hV:V<P) (h:(V:Int)+P*c=R) (h0:0<=R) (h1:R<P):(V:Int)=R:=by
 have hc:c=0:=by
  rcases Int.lt_trichotomy c 0 with hc|hc|hc
  ·have:(P:Int)*c<=P*(-1):=Int.mul_le_mul_of_nonneg_left (by omega) (by omega)
   omega
  ·exact hc
  ·have:(P:Int)*1<=P*c:=Int.mul_le_mul_of_nonneg_left (by omega) (by omega)
   omega
 subst hc;omega
theorem UD (x y:Nat):Nat.gcd y (x%y)=Nat.gcd x y:=by
 rw[Nat.gcd_comm x y,Nat.gcd_rec y x];exact Nat.gcd_comm _ _
def zv (neg:Bool) (m:List Nat):Int:=bif neg then -(val m:Int) else (val m:Int)
abbrev rZ (q neg:Bool) (m:List Nat):List AV:=[.bool neg,.sl q (m.map AL)]
abbrev eZ (z:Int):List AV:=rZ false (decide (z<0)) (dg z.natAbs)
theorem EW (neg:Bool) (m:List Nat):(zv neg m).natAbs=val m:=by cases neg<;>simp [zv]
theorem FB (z:Int):zv (decide (z<0)) (dg z.natAbs)=z:=by
 unfold zv;rw[BS];by_cases h:z<0
 ·simp [h];omega
 ·simp [h];omega
def Sm (n:Nat) (m:List Nat):Prop:=AY m/\m.length<=n
theorem Sm.dg {n V:Nat} (h:V<4294967296^n):Sm n (dg V):=⟨DX V,N1.2 h⟩
theorem Sm.le {n n':Nat} {m:List Nat} (h:Sm n m) (hn:n<=n'):Sm n' m:=⟨h.1,by have:=h.2;omega⟩
theorem Sm.val {n:Nat} {m:List Nat} (h:Sm n m):val m<4294967296^n:=Nat.lt_of_lt_of_le (E2 h.1) (Nat.pow_le_pow_right (by omega) h.2)
theorem Sm.rp {n:Nat} {m:List Nat} (h:Sm n m):Sm n (Go.e9.dg (Go.e9.val m)):=Sm.dg h.val
theorem EP {z:Int} {b:Bool} {n:Nat} (h1:n=z.natAbs) (h2:b=decide (z<0)):AV.agg [.bool b,.sl false ((dg n).map AL)] = .agg (eZ z):=by rw[h1,h2]
theorem DK (z:Int):A6 (.agg (eZ z)):=by
 simp only[A6,C6,and_true,true_and];exact CQ _
theorem M6 {z:Int} (h:z<0):true=decide (z<0):=by simp [h]
theorem GE {z:Int} (h:0<=z):false=decide (z<0):=by simp;omega
theorem pZ (n:Nat):Sm n []:=⟨R7,Nat.zero_le _⟩
theorem dA {n d:Nat} (hn:1<=n) (hd:d<4294967296):Sm n [d]:=⟨G7 hd,hn⟩
theorem rX (b:Bool):zv b []=0:=by cases b<;>rfl
theorem Sm.low {n V:Nat} {m:List Nat} (h:Sm n m) (hV:V<=Go.e9.val m):Sm n (Go.e9.dg V):=Sm.dg (Nat.lt_of_le_of_lt hV h.val)
theorem Sm.mul {n k:Nat} {a b:List Nat} (ha:Sm n a) (hb:Sm k b) {V:Nat} (hV:V=Go.e9.val a*Go.e9.val b):Sm (n+k) (Go.e9.dg V):=by
 refine Sm.dg ?_;rw[hV,Nat.pow_add];exact Nat.mul_lt_mul_of_le_of_lt (Nat.le_of_lt ha.val) hb.val (Nat.pow_pos (by omega))
theorem Sm.add {n:Nat} {a b:List Nat} (ha:Sm n a) (hb:Sm n b) {V:Nat} (hV:V<=Go.e9.val a+Go.e9.val b):Sm (n+1) (Go.e9.dg V):=by
 refine Sm.dg ?_;have h1:=ha.val;have h2:=hb.val;rw[Nat.pow_succ];omega
theorem HY (V:Nat):(dg V).length=0↔V=0:=by rw[List.length_eq_zero_iff,ZL]
theorem ER (m:List Nat):zv false m=(val m:Int):=rfl
theorem OC (m:List Nat):zv true m = -(val m:Int):=rfl
def u9 (z:Int):Int:=if z<0 then -1 else if 0<z then 1 else 0
theorem cW {z:Int} (h:z<0) : -1=u9 z:=by unfold u9;rw[if_pos h]
theorem cX {z:Int} (h:0<z):1=u9 z:=by unfold u9;rw[if_neg (by omega),if_pos h]
theorem U7 {z:Int} (h:z=0):0=u9 z:=by unfold u9;rw[if_neg (by omega),if_neg (by omega)]
theorem rN {n:Nat} (h:n<18446744073709551616):val [n%4294967296,n/4294967296]=n:=(by simp [val];omega)
end Go.e9
