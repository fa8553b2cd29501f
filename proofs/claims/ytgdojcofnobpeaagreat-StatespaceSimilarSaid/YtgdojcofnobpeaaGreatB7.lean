/-
  The walk by computation is sound: calls, regions, code, loops, functions.
-/
import Derived.Test.YtgdojcofnobpeaaGreatB6
import Derived.Test.YtgdojcofnobpeaaGreatB5
set_option linter.unusedSimpArgs false
set_option linter.unusedVariables false
set_option linter.unnecessarySimpa false
namespace Go.Eng
section
variable {σ:II} {tm:Tm} {M:Mem} {st:St} {L:Lib} {b9:List Nat}
theorem Dg {own:BT} {q:Bool} {d:Nat} : ∀ {e:List AV},IW e=true->e.mapM (snap own q d)=some e
 | [],_=>rfl
 | v::r,h=>by
  have hv:snap own q d v=some v/\IW r=true:=by
   cases v<;>simp only[IW]at h<;>first|cases h|exact ⟨by cases d<;>rfl,h⟩
  rw[List.mapM_cons,hv.1,Dg hv.2];rfl
theorem Di {own:BT} {q:Bool} {d:Nat} : ∀ {e:List AV},QB e=true->e.mapM (snap own q d)=some (e.map nl)
 | [],_=>rfl
 | v::r,h=>by
  have hv:snap own q d v=some (nl v)/\QB r=true:=by
   cases v<;>simp only[QB]at h<;>first|cases h|exact ⟨by cases d<;>rfl,h⟩
  rw[List.mapM_cons,hv.1,Di hv.2];rfl
theorem Dh {own:BT} {q:Bool} {d:Nat} : ∀ {es:List (List AV)},(∀ e∈es,QB e=true)->es.mapM (λ cs:List AV=>cs.mapM (snap own q d))=some (es.map λ e=>e.map nl)
 | [],_=>rfl
 | e::r,h=>by
  rw[List.mapM_cons,Di (h e List.mem_cons_self),Dh λ x hx=>h x (List.mem_cons_of_mem _ hx)];rfl
theorem Df {own:BT} {q:Bool} {d:Nat} : ∀ {es:List (List AV)},(∀ e∈es,IW e=true)->es.mapM (λ cs:List AV=>cs.mapM (snap own q d))=some es
 | [],_=>rfl
 | e::r,h=>by
  rw[List.mapM_cons,Dg (h e List.mem_cons_self),Df λ x hx=>h x (List.mem_cons_of_mem _ hx)];rfl
theorem Ew (hs:NR σ st.own M) {q:Bool} {v:AV} {K:AV->Prop} (h:YM q M b9 v K) : ∃ v',(∀ d,snap (st.own.m4 b9) q (d+1) (CZ σ v)=some v')/\K v'/\v ≠ .any/\DP σ v=CZ σ v:=by
 cases v with
 | row key t z off len =>
  have fin : ∀ (z':Nat) (es:List (List AV)),((st.own.m4 b9) (σ key t).1).blk (σ key t).2=some ⟨z',es⟩->z=z'->CR es off len (λ es=>K (.sl q es)) -> ∃ v',(∀ d,snap (st.own.m4 b9) q (d+1) (CZ σ (.row key t z off len))=some v')/\K v'/\AV.row key t z off len ≠ .any/\DP σ (.row key t z off len)=CZ σ (.row key t z off len):=by
   intro z' es hb hz h;subst hz;obtain ⟨h1,h2,h3⟩:=h;refine ⟨_,λ d => ?_,h3,(by intro e;cases e),rfl⟩;simp only[CZ,snap,G5,BT.get,hb];rw[if_pos ⟨h1,trivial⟩];simp only;rw[Dh λ e he=>h2 e (List.mem_of_mem_drop (List.mem_of_mem_take he))];rfl
  simp only[YM]at h;split at h
  ·rename_i s z' es hm
   split at h
   ·cases hz:Nat.beq z z'<;>simp only[hz,cond_true,cond_false]at h
    cases hb:WE s b9<;>simp only[hb,cond_true,cond_false]at h;refine fin z' es ?_ (DI.1 hz) h;have s9:=hs.blk _ _ _ (GK hm);rw[hs.site _ _ _ hm]at s9 ⊢;rw[Z1 hb];exact s9
   ·exact h.elim
  ·rename_i s rows hm
   split at h
   ·exact h.elim
   ·rename_i i
    split at h
    ·obtain ⟨z',es,g,h⟩:=h
     cases hz:Nat.beq z z'<;>simp only[hz,cond_true,cond_false]at h;exact fin z' es (hs.blk key (i+1) (.rw z' es) (by simp [b7,hm,g])) (DI.1 hz) h
    ·rename_i b r
     cases hb:X1 (b::r)<;>simp only[hb,cond_true,cond_false]at h;obtain ⟨z',es,g,h⟩:=h;cases hz:Nat.beq z z'<;>simp only[hz,cond_true,cond_false]at h;have g':b7 M key (i+1)=some (.rw z' es):=by simp [b7,hm,g]
     refine fin z' es ?_ (DI.1 hz) h;rw[oR (hs.low _ _ _ g' rfl) hb];exact hs.blk key (i+1) (.rw z' es) g'
  ·exact h.elim
 | int k n=>exact ⟨_,λ d=>rfl,h,(by intro e;cases e),rfl⟩
 | bool b=>exact ⟨_,λ d=>rfl,h,(by intro e;cases e),rfl⟩
 | sl l es=>exact ⟨_,λ d=>rfl,h,(by intro e;cases e),rfl⟩
 | z9 c=>exact ⟨_,λ d=>rfl,h,(by intro e;cases e),rfl⟩
 | nil=>exact ⟨_,λ d=>rfl,h,(by intro e;cases e),rfl⟩
 | _=>exact (h:False).elim
theorem Eu (hs:NR σ st.own M) {q:Bool} : ∀ {l:List AV} {K:List AV->Prop},jI q M b9 l K -> ∃ l',(∀ d,(l.map (CZ σ)).mapM (snap (st.own.m4 b9) q (d+1))=some l')/\K l'
 | [],K,h=>⟨[],λ d=>rfl,h⟩
 | v::r,K,h=>by
  obtain ⟨v',h1,h2,_⟩:=Ew hs (show YM q M b9 v λ v'=>jI q M b9 r λ r'=>K (v'::r') from h);obtain ⟨l',h3,h4⟩:=Eu hs h2;refine ⟨v'::l',λ d => ?_,h4⟩;rw[List.map_cons,List.mapM_cons,h1 d,h3 d];rfl
theorem Et (hs:NR σ st.own M) {q:Bool} : ∀ {l:List (List AV)} {K:List (List AV)->Prop},qF q M b9 l K -> ∃ l',(∀ d,(l.map λ cs=>cs.map (CZ σ)).mapM (λ cs:List AV=>cs.mapM (snap (st.own.m4 b9) q (d+1)))=some l')/\K l'
 | [],K,h=>⟨[],λ d=>rfl,h⟩
 | v::r,K,h=>by
  obtain ⟨v',h1,h2⟩:=Eu hs (show jI q M b9 v λ v'=>qF q M b9 r λ r'=>K (v'::r') from h);obtain ⟨l',h3,h4⟩:=Et hs h2;refine ⟨v'::l',λ d => ?_,h4⟩;rw[List.map_cons,List.mapM_cons,h1 d,h3 d];rfl
theorem pN {own:BT} {q:Bool} {d:Nat} {k:Nat} : ∀ {rows:List (Option (Nat × List (List AV)))} {i:Nat},(∀ j z es,rows[j]? = some (some (z,es))->(own (σ k (i+j+1)).1).blk (σ k (i+j+1)).2=some ⟨z,es⟩ /\ ∀ e∈es,IW e=true) ->
  (DZ σ k i rows).mapM (λ cs:List AV=>cs.mapM (snap own q (d+1)))=some (WI q rows)
 | [],i,h=>rfl
 | none::r,i,h=>by
  rw[DZ,List.mapM_cons,pN (i:=i+1) λ j z es hj=>by
   have:=h (j+1) z es (by simpa using hj)
   rwa [show i+(j+1)+1=i+1+j+1 by omega]at this]
  rfl
 | some (z,es)::r,i,h=>by
  rw[DZ,List.mapM_cons,pN (i:=i+1) λ j z es hj=>by
   have:=h (j+1) z es (by simpa using hj)
   rwa [show i+(j+1)+1=i+1+j+1 by omega]at this]
  obtain ⟨h1,h2⟩:=h 0 z es rfl;have:snap own q (d+1) (.row (σ k (i+1)).1 (σ k (i+1)).2 z 0 es.length)=some (.sl q es):=by
   simp only[snap,G5,BT.get];rw[show (own (σ k (i+1)).1).blk (σ k (i+1)).2=some ⟨z,es⟩ from h1];simp only[Nat.zero_add,Nat.le_refl,and_self,if_true,List.drop_zero];rw[List.take_of_length_le (Nat.le_refl _),Df h2];rfl
  rw[List.mapM_cons,this];rfl
theorem Es (hs:NR σ st.own M) {q:Bool} {v:AV} {K:AV->Prop} (h:dM q M b9 v K) : ∃ v',snap (st.own.m4 b9) q 6 (CZ σ v)=some v'/\K v'/\v ≠ .any/\DP σ v=CZ σ v/\F6 (st.own.m4 b9) q (CZ σ v)=some v':=by
 have kn:YM q M b9 v K -> ∃ v',snap (st.own.m4 b9) q 6 (CZ σ v)=some v'/\K v'/\v ≠ .any/\DP σ v=CZ σ v/\F6 (st.own.m4 b9) q (CZ σ v)=some v':=by
  intro h;obtain ⟨v',h1,h2,h3,h4⟩:=Ew hs h;refine ⟨v',h1 5,h2,h3,h4,?_⟩;have:=h1 5
  cases v<;>first|exact this|exact (h:False).elim
 unfold dM at h;split at h
 ·rename_i key z off len
  split at h
  ·rename_i s z' es hm
   cases hz:Nat.beq z z'<;>simp only[hz,cond_true,cond_false]at h;cases hb:WE s b9<;>simp only[hb,cond_true,cond_false]at h;cases ho:Nat.beq off 0<;>simp only[ho,cond_true,cond_false]at h;obtain rfl:=DI.1 hz;obtain rfl:=DI.1 ho;obtain ⟨rfl,h⟩:=h;obtain ⟨l',h1,h2⟩:=Et hs h;have s9:=hs.blk _ _ _ (GK hm);rw[hs.site _ _ _ hm]at s9;have key:snap (st.own.m4 b9) q 6 (CZ σ (.row key 0 z 0 es.length))=some (.sl q l'):=by
    simp only[CZ,snap,G5,BT.get,hs.site _ _ _ hm];rw[Z1 hb,s9];simp only[CQ.blk,Nat.zero_add,List.length_map,Nat.le_refl,and_self,if_true,List.drop_zero];rw[List.take_of_length_le (by simp),h1 4];rfl
   exact ⟨_,key,h2,(by intro e;cases e),rfl,key⟩
  ·rename_i s rows hm
   split at h
   ·cases hz:Nat.beq z 1<;>simp only[hz,cond_true,cond_false]at h
    obtain rfl:=DI.1 hz;obtain ⟨rfl,rfl,h1,h2⟩:=h;have s9:=hs.blk _ _ _ (GK hm);have key:snap (st.own.m4 []) q 6 (CZ σ (.row key 0 1 0 rows.length))=some (.sl q (WI q rows)):=by
     simp only[CZ,snap,G5,BT.get,BT.m4];rw[s9];simp only[CQ.blk,Nat.zero_add,H1,Nat.le_refl,and_self,if_true,List.drop_zero];rw[List.take_of_length_le (by rw[H1];exact Nat.le_refl _),pN (i:=0) λ j z es hj=>⟨by
      have:=hs.blk key (j+1) (.rw z es) (by simp [b7,hm,hj])
      simpa [CQ.blk] using this,h1 z es (zM hj)⟩]
     rfl
    exact ⟨_,key,h2,(by intro e;cases e),rfl,key⟩
   ·exact h.elim
  ·exact kn h
 ·exact kn h
theorem Hf (hs:NR σ st.own M) {q:Bool} : ∀ {l:List AV} {K:List AV->Prop},qG q M b9 l K -> ∃ l',(l.map (CZ σ)).mapM (snap (st.own.m4 b9) q 6)=some l'/\K l'
 | [],K,h=>⟨[],rfl,h⟩
 | v::r,K,h=>by
  obtain ⟨v',h1,h2,_⟩:=Es hs (show dM q M b9 v λ v'=>qG q M b9 r λ r'=>K (v'::r') from h);obtain ⟨l',h3,h4⟩:=Hf hs h2;refine ⟨v'::l',?_,h4⟩;rw[List.map_cons,List.mapM_cons,h1,h3];rfl
theorem qE (hs:NR σ st.own M) {q:Bool} {v:AV} {K:AV->Prop} (h:WJ q M b9 v K) : ∃ v',F6 (st.own.m4 b9) q (C9 σ v)=some v'/\K v'/\v ≠ .any/\C9 σ v=DP σ v:=by
 cases v with
 | agg cs =>
  simp only[WJ]at h;obtain ⟨l',h1,h2⟩:=Hf hs h;refine ⟨.agg l',?_,h2,(by intro e;cases e),rfl⟩;simp only[KV,F6,h1,Option.map_some]
 | tup vs=>exact (h:False).elim
 | fn p f g cs=>exact (h:False).elim
 | any=>exact (h:False).elim
 | _ =>
  simp only[WJ]at h;obtain ⟨v',h1,h2,h3,h4,h5⟩:=Es hs h;exact ⟨v',h5,h2,h3,rfl⟩
theorem qI (hr:RX σ tm M st) : ∀ {xs:List B8} {K:List AV->Prop},jK tm M b9 xs K -> ∃ vs,(xs.map st.ev).mapM (F6 (st.own.m4 b9) true)=some vs/\K vs
 | [],K,h=>⟨[],rfl,h⟩
 | x::r,K,h=>by
  obtain ⟨v',h1,h2,h3,_⟩:=qE hr.sat (show WJ true M b9 (ex tm x) λ v=>jK tm M b9 r λ vs=>K (v::vs) from h);obtain ⟨l',h4,h5⟩:=qI hr h2;refine ⟨v'::l',?_,h5⟩;rw[List.map_cons,List.mapM_cons,hr.ev rfl h3,h1,h4];rfl
theorem AkP (hs:NR σ st.own M) {v:AV} {K:AV->Prop} (h:jJ M b9 v K) : ∃ v',UA (st.own.m4 b9) true (C9 σ v)=some v'/\K v'/\v ≠ .any/\C9 σ v=DP σ v:=by
 cases v with
 | nil=>exact ⟨.nil,rfl,h,(by intro e;cases e),rfl⟩
 | _ =>
  simp only[jJ]at h;obtain ⟨v',h1,h2,h3,h4⟩:=qE hs h;exact ⟨v',h1,h2,h3,h4⟩
theorem Hg (hr:RX σ tm M st) : ∀ {xs:List B8} {K:List AV->Prop},qH tm M b9 xs K -> ∃ vs,(xs.map st.ev).mapM (UA (st.own.m4 b9) true)=some vs/\K vs
 | [],K,h=>⟨[],rfl,h⟩
 | x::r,K,h=>by
  obtain ⟨v',h1,h2,h3,_⟩:=AkP hr.sat (show jJ M b9 (ex tm x) λ v=>qH tm M b9 r λ vs=>K (v::vs) from h);obtain ⟨l',h4,h5⟩:=Hg hr h2;refine ⟨v'::l',?_,h5⟩;rw[List.map_cons,List.mapM_cons,hr.ev rfl h3,h1,h4];rfl
theorem cG (hr:RX σ tm M st) : ∀ {xs:List B8} {K:List AV->Prop},ZQ tm xs K -> ∃ vs,xs.map st.ev=vs.map (C9 σ)/\K vs
 | [],K,h=>⟨[],rfl,h⟩
 | x::r,K,h=>by
  obtain ⟨h1,h2⟩:=gT (show fV (ex tm x) λ v=>ZQ tm r λ vs=>K (v::vs) from h);obtain ⟨vs,h3,h4⟩:=cG hr h2;exact ⟨ex tm x::vs,by rw[List.map_cons,List.map_cons,hr.ev rfl h1,h3],h4⟩
theorem uC {v:AV} (h:CS v):CZ σ v=v:=by
 cases v<;>first|rfl|(simp only[CS]at h)
theorem uA : ∀ {l:List AV},FG l->l.map (CZ σ)=l
 | [],_=>rfl
 | v::r,h=>by
  simp only[FG]at h;rw[List.map_cons,uC h.1,uA h.2]
theorem uD {v:AV} (h:CS v):DP σ v=v:=by
 cases v with
 | agg cs=>simp only[CS]at h;simp only[DP,uA h]
 | fn p f g cs=>simp only[CS]at h
 | _=>exact uC (σ:=σ) h
theorem uB : ∀ {l:List AV},FG l->l.map (DP σ)=l
 | [],_=>rfl
 | v::r,h=>by
  simp only[FG]at h;rw[List.map_cons,uD h.1,uB h.2]
theorem uF {v:AV} (h:CS v):C9 σ v=v:=by
 cases v with
 | tup cs=>simp only[CS]at h;simp only[C9,uB h]
 | _=>exact uD (σ:=σ) h
theorem Fo {I:List AV->Option (AV × BT)} {vs:List AV} {r:AV} (h:LO I vs=some r):CS r:=by
 unfold LO at h;split at h
 ·split at h
  ·split at h
   ·obtain rfl:=Option.some.inj h
    assumption
   ·cases h
  ·cases h
 ·cases h
theorem Ev.clean {f:Nat} {vs:List AV} {r:AV} (h:Ev L f vs r):CS r:=by
 obtain ⟨n,h⟩:=h;unfold K2 OC at h;split at h
 ·split at h
  ·rename_i r1 r2 h1 h2
   split at h
   ·obtain rfl:=Option.some.inj h
    exact Fo h1
   ·cases h
  ·cases h
 ·exact Fo h
theorem RX.put (h:RX σ tm M st) (d:Nat) {v v':AV} (e:v'=C9 σ v):RX σ ((d,v)::tm) M ⟨dz st.tm d v',st.own⟩:=by
 refine ⟨λ j => ?_,h.sat⟩;simp only[tg,dW];cases hb:Nat.beq j d
 ·rw[if_neg (IE.1 hb)];exact h.tm j
 ·rw[if_pos (DI.1 hb)];exact Or.inr e
theorem Dj : ∀ {cs:List AV},cV cs=true->cs.map (C9 σ)=cs.map (CZ σ)
 | [],_=>rfl
 | v::r,h=>by
  simp only[cV]at h;cases hv:oU v<;>simp only[hv,cond_true,cond_false]at h
  ·cases h
  ·rw[List.map_cons,List.map_cons,Dj h]
   cases v<;>first|rfl|(simp [oU]at hv)
theorem Ut {v:AV} (h:J5 v=true):CZ σ v=v:=by cases v<;>first|rfl|(simp [J5]at h)
theorem wH : ∀ {cs:List AV},cs.all J5=true->cs.map (CZ σ)=cs
 | [],_=>rfl
 | c::r,h=>by
  simp only[List.all_cons,Bool.and_eq_true]at h;rw[List.map_cons,Ut h.1,wH h.2]
theorem wI : ∀ {vs:List AV},vs.all dq=true->vs.map (C9 σ)=vs
 | [],_=>rfl
 | v::r,h=>by
  simp only[List.all_cons,Bool.and_eq_true]at h;rw[List.map_cons,wI h.2];congr 1;cases v with
  | agg cs=>simp only[C9,DP,wH (show cs.all J5=true from h.1)]
  | _=>first|rfl|(simp [dq,J5]at h)
theorem Zo {r:AV} (hc:CS r) (hf:aM r):C9 σ (ka r)=ka r:=by
 cases r with
 | agg cs =>
  simp only[ka,C9,DP];congr 1;rw[List.map_map];refine List.map_congr_left λ c hcm => ?_
  have:=hf c hcm
  cases c<;>first|rfl|exact this.elim
 | _=>first|rfl|exact hf.elim
theorem zV : ∀ {l:List AV},iA l=true->l.map (C9 σ)=l
 | [],_=>rfl
 | .int _ _::r,h=>by
  rw[List.map_cons,zV (l:=r) h];rfl
theorem Pn {K:AV->Mem->Prop} (hr:RX σ tm M st) {op:GN} (h:XE L tm M b9 K op):DL L tm b9 K op st\/(∃ f xs,op = .call f xs)\/(∃ f xs,op = .c8 f xs)\/(∃ x xs,op = .n8 x xs)\/(∃ f xs,op = .l9 f xs)\/(∃ s f xs,op = .o0 s f xs) \/ ∃ s f xs,op = .x9 s f xs:=by
 cases op with
 | call f xs=>exact Or.inr (Or.inl ⟨_,_,rfl⟩)
 | c8 f xs=>exact Or.inr (Or.inr (Or.inl ⟨_,_,rfl⟩))
 | n8 x xs=>exact Or.inr (Or.inr (Or.inr (Or.inl ⟨_,_,rfl⟩)))
 | l9 f xs=>exact Or.inr (Or.inr (Or.inr (Or.inr (Or.inl ⟨_,_,rfl⟩))))
 | o0 s f xs=>exact Or.inr (Or.inr (Or.inr (Or.inr (Or.inr (Or.inl ⟨_,_,_,rfl⟩)))))
 | x9 s f xs=>exact Or.inr (Or.inr (Or.inr (Or.inr (Or.inr (Or.inr ⟨_,_,_,rfl⟩)))))
 | gu s n x v=>exact Or.inl (Oa hr h)
 | al s z b x y=>exact Or.inl (Lg hr h)
 | jz ne x=>exact Or.inl (Pq hr h)
 | bad=>exact (show False from h).elim
 | kj x=>exact Or.inl (Nw hr h)
 | bh x=>exact Or.inl (Pg hr h)
 | gv s z b x y=>exact Or.inl (Lh hr h)
 | il s z b x y=>exact Or.inl (Ld hr h)
 | cr tb x=>exact Or.inl (Ny hr h)
 | jc p f xs=>exact Or.inl (Pv hr h)
 | a8 x=>exact Or.inl (Nv hr h)
 | q7 s z=>exact Or.inl (Oc hr h)
 | pick c a b=>exact Or.inl (Nx hr h)
 | bin o x y=>exact Or.inl (Pa hr h)
 | beq ne x y=>exact Or.inl (Oz hr h)
 | ke ne n x y=>exact Or.inl (Lb hr h)
 | un o x=>exact Or.inl (Ob hr h)
 | conv k x=>exact Or.inl (Ph hr h)
 | box s x=>exact Or.inl (Pb hr h)
 | alloc s z=>exact Or.inl (Lc hr h)
 | build z ps=>exact Or.inl (Pf hr h)
 | c4 s z ps=>exact Or.inl (Pc hr h)
 | a7 x o=>exact Or.inl (Pl hr h)
 | gx x o n a=>exact Or.inl (Pm hr h)
 | a4 a z x i=>exact Or.inl (Po hr h)
 | idx l z a x i=>exact Or.inl (Pp hr h)
 | ld a n x=>exact Or.inl (Pr hr h)
 | st n x v=>exact Or.inl (sQ hr h)
 | mk s z b ze l c=>exact Or.inl (Pu hr h)
 | ay z x lo hi=>exact Or.inl (Nz hr h)
 | ext x i=>exact Or.inl (Pk hr h)
 | len x=>exact Or.inl (Ps hr h)
 | mm m xs=>exact Or.inl (Nu hr h)
 | app s z b x y=>exact Or.inl (Le hr h)
 | iq z x y=>exact Or.inl (Pj hr h)
theorem kL {K:AV->Mem->Prop} (hr:RX σ tm M st) {op:GN} {d:Option Nat} {g:Option (Nat × Bool)} {l:List AI} {k:List It} {Q:St->Prop} (h:XE L tm M b9 K op) (hg:IL st g=some true)
  (hk : ∀ σ' v v' M' l8,K v M'->v'=C9 σ' v->RX σ' tm M' ⟨st.tm,l8⟩->AO L l k ⟨((⟨st.tm,l8⟩:St).dst d v').tm,l8⟩ Q):AO L (⟨d,op,g,b9⟩::l) k st Q:=by
 rcases Pn hr h with ⟨E,σ',v,M',h1,h2,h3,h4⟩|⟨f,xs,rfl⟩|⟨f,xs,rfl⟩|⟨x,xs,rfl⟩|⟨f,xs,rfl⟩|⟨s,f,xs,rfl⟩|⟨s,f,xs,rfl⟩
 ·rw[Nc hg h1,kQ]
  have:=hk σ' v _ M' _ h2 h3 h4
  cases d<;>exact this
 ·simp only[XE]at h
  obtain ⟨vs,h1,r,h2,h3⟩:=qI hr h;rw[Mt hg h1 h2];have:=hk σ r r M st.own h3 (uF h2.clean).symm hr
  cases d<;>exact this
 ·simp only[XE]at h
  obtain ⟨vs,h1,h2⟩:=cG hr h;obtain ⟨r,l8,σ',M',h3,h4,h5,h6⟩:=h2 σ st.own hr.sat;rw[<-h1]at h3;rw[Mu hg h3];have:=hk σ' r _ M' l8 h6 rfl ⟨λ j=>by rw[h5 j];exact hr.tm j,h4⟩
  cases d<;>exact this
 ·simp only[XE]at h
  split at h
  ·rename_i f g' e1
   obtain ⟨h0,h⟩:=h;obtain ⟨vs,h1,r,h2,h3⟩:=qI hr h;have e2:=hr.ev e1 (by intro e;cases e);rw[pQ,List.map_nil,h0]at e2;rw[Mv hg e2 h1 h2];have:=hk σ r r M st.own h3 (uF h2.clean).symm hr
   cases d<;>exact this
  ·rename_i f g' cs e1
   cases ho:cV cs<;>simp only[ho,cond_true,cond_false]at h;obtain ⟨h0,h⟩:=h;obtain ⟨vs,h1,h2⟩:=cG hr h;rw[J6]at h2;obtain ⟨r,l8,σ',M',h3,h4,h5,h6⟩:=h2 σ st.own hr.sat;rw[List.map_append,<-h1,Dj (σ:=σ) ho]at h3;have e2:=hr.ev e1 (by intro e;cases e);rw[pQ,h0]at e2;rw[My hg e2 h3];have:=hk σ' r _ M' l8 h6 rfl ⟨λ j=>by rw[h5 j];exact hr.tm j,h4⟩
   cases d<;>exact this
  ·exact h.elim
 ·simp only[XE]at h
  obtain ⟨vs,h1,h2⟩:=cG hr h;cases ho:vs.all dq<;>simp only[ho,cond_true,cond_false]at h2;obtain ⟨r,h3,h4,h5⟩:=h2;have e1:xs.map st.ev=vs:=by rw[h1];exact wI ho
  rw[Mw hg (by rw[e1];exact ho) (by rw[e1];exact h3) h4];have:=hk σ (ka r) (ka r) M st.own h5 (Zo h3.clean h4).symm hr
  cases d<;>exact this
 ·simp only[XE]at h
  cases vd:HM s<;>simp only[vd,cond_true,cond_false]at h;obtain ⟨vs,h1,z,es,n,h2,rfl,h3⟩:=Hg hr h;obtain ⟨k',g1,g2,g3⟩:=KH h3;refine Mx hg h1 h2 ?_;rw[kQ];have:=hk (E5 σ k' λ_=>(s,st.own.e5 s)) _ (.row s (st.own.e5 s) z 0 es.length) _ _ g3 (by simp only[FN,DM]) (hr.bq (q:=s) g1 g2 (.rw z es) trivial rfl (λ_=>vd))
  cases d<;>exact this
 ·simp only[XE]at h
  obtain ⟨vs,h1,h2⟩:=cG hr h;split at h2
  ·rename_i key rest
   cases hi:iA rest<;>simp only[hi,cond_true,cond_false]at h2;obtain ⟨cells,bu,kd,n,g1,g2,g3,g4,g5⟩:=h2;have bp:=hr.sat.site _ _ _ g1;have s9:=hr.sat.blk _ _ _ (GK g1);rw[bp]at s9;simp only[CQ.blk,L4 g2]at s9;have u5:xs.map st.ev = .ptr s (σ key 0).2 0 0::rest:=by
    rw[h1,List.map_cons,GY,bp,zV hi]
   have hE:=g4 (σ key 0).2 (st.own s) s9;refine Mz hg (by rw[u5];exact hE) ?_;rw[kQ];have:=hk σ (.int kd n) (.int kd n) _ _ g5 rfl (hr.yp g1 trivial (.bx bu) trivial (λ h=>by cases h))
   simp only[CQ.blk,L4 g3]at this;cases d<;>exact this
  ·exact h2.elim
theorem Yo (hr:RX σ tm M st) {g:Nat} {w:Bool} {b:Bool} (e:tg tm g = .bool b):IL st (some (g,w))=some (b == w):=by
 rcases hr.tm g with h|h
 ·rw[e]at h;cases h
 ·rw[e]at h
  simp only[IL,h,JR]
theorem Yp (hr:RX σ tm M st) {g:Nat} {w:Bool} (e:tg tm g = .tup []):IL st (some (g,w))=some false:=by
 rcases hr.tm g with h|h
 ·rw[e]at h;cases h
 ·rw[e]at h
  simp only[IL,h,LB,List.map_nil]
theorem qQ {key:Nat} : ∀ (tm:Tm) (j:Nat),tg (tv key tm) j = .any\/tg (tv key tm) j=tg tm j
 | [],_=>Or.inl rfl
 | (i,v)::r,j=>by
  simp only[tv];cases hc:VX key v<;>cases hb:Nat.beq j i;all_goals simp only[cond_true,cond_false,tg,hb]
  ·exact qQ r j
  ·exact Or.inr trivial
  ·exact qQ r j
  ·exact Or.inl trivial
theorem AlA {v:AV} {K:Tm->Prop} (h:xk v tm K) : ∃ v9,(∀ j,tg v9 j = .any\/tg v9 j=tg tm j)/\K v9:=by
 unfold xk at h;split at h
 ·rw[ZT]at h
  exact ⟨_,λ j=>qQ _ j,h⟩
 ·exact ⟨_,λ j=>Or.inr rfl,h⟩
theorem sR {k:List It} {Q:Tm->Mem->Prop} : ∀ {l:List AI} {K:Tm->Mem->Prop} {tm:Tm} {M:Mem},XO L l K tm M->(∀ v9 M',K v9 M'->AH L k v9 M' Q)->rV L l k tm M Q
 | [],K,tm,M,h,hk=>λ σ st hr=>Na.2 (hk tm M h σ st hr)
 | o::l,K,tm,M,h,hk=>by
  intro σ st hr;have h:XI L o (XO L l) K tm M:=h;have ih : ∀ v9 M',XO L l K v9 M'->rV L l k v9 M' Q:=λ v9 M' h'=>sR h' hk
  have some_ : ∀ (d:Nat) (op:GN) (g:Option (Nat × Bool)) (b9:List Nat),IL st g=some true->XE L tm M b9 (λ v M=>XO L l K ((d,v)::tm) M) op->AO L (⟨some d,op,g,b9⟩::l) k st (SQ Q):=by
   intro d op g b9 hg hx;refine kL hr hx hg ?_;intro σ' v v' M' l8 h1 h2 h3;exact ih _ _ h1 σ' _ (h3.put d h2)
  have sf : ∀ (d:Nat) (u:AV) (op:GN) (b9:List Nat),XE L tm M b9 (λ v M=>xk u tm λ tm=>XO L l K ((d,v)::tm) M) op->AO L (⟨some d,op,none,b9⟩::l) k st (SQ Q):=by
   intro d u op b9 hx;refine kL hr hx rfl ?_;intro σ' v v' M' l8 h1 h2 h3;obtain ⟨v9,g1,g2⟩:=AlA h1;exact ih _ _ g2 σ' _ ((show RX σ' v9 M' ⟨st.tm,l8⟩ from ⟨λ j=>(g1 j).elim Or.inl λ e=>by rw[e];exact h3.tm j,h3.sat⟩).put d h2)
  have none_ : ∀ (op:GN) (g:Option (Nat × Bool)) (b9:List Nat),IL st g=some true->XE L tm M b9 (λ_ M=>XO L l K tm M) op->AO L (⟨none,op,g,b9⟩::l) k st (SQ Q):=by
   intro op g b9 hg hx;refine kL hr hx hg ?_;intro σ' v v' M' l8 h1 h2 h3;exact ih _ _ h1 σ' _ h3
  have qa : ∀ (d:Option Nat) (op:GN) (g:Option (Nat × Bool)) (b9:List Nat),IL st g=some false->(match d with|some d=>XO L l K ((d,.tup [])::tm) M|none=>XO L l K tm M)->AO L (⟨d,op,g,b9⟩::l) k st (SQ Q):=by
   intro d op g b9 hg hx;rw[Nb hg];cases d with
   | none=>exact ih _ _ hx σ _ hr
   | some d=>exact ih _ _ hx σ _ (hr.put d rfl)
  obtain ⟨d,op,g,b9⟩:=o;cases g with
  | none =>
   cases d with
   | none=>exact none_ op none b9 rfl h
   | some d =>
    cases op with
    | app s z b x y=>exact sf d (ex tm x) (.app s z b x y) b9 h
    | _=>exact some_ d _ none b9 rfl h
  | some gw =>
   obtain ⟨g,w⟩:=gw;have h:(match tg tm g with
    | .bool b=>fB (b == w) λ c=>match c,d with
     | true,some d=>XE L tm M b9 (λ v M=>XO L l K ((d,v)::tm) M) op
     | true,none=>XE L tm M b9 (λ_ M=>XO L l K tm M) op
     | false,some d=>XO L l K ((d,.tup [])::tm) M
     | false,none=>XO L l K tm M
    | .tup []=>match d with
     | some d=>XO L l K ((d,.tup [])::tm) M
     | none=>XO L l K tm M
    | _=>False):=by cases d<;>cases op<;>exact h
   split at h
   ·rename_i b e
    rw[U2]at h;have hg:=Yo hr (w:=w) e;cases hb:(b == w)<;>rw[hb]at h hg
    ·exact qa d op _ b9 hg (by cases d<;>exact h)
    ·cases d with
     | none=>exact none_ op _ b9 hg h
     | some d=>exact some_ d op _ b9 hg h
   ·rename_i e
    exact qa d op _ b9 (Yp hr e) (by cases d<;>exact h)
   ·exact h.elim
theorem kM {Q:Tm->Mem->Prop} : ∀ {n:Nat} {k:List It} {tm:Tm} {M:Mem},XK L Q n k tm M->AH L k tm M Q
 | 0,k,tm,M,h=>h
 | n+1,[],tm,M,h=>λ σ st hr=>Mm.2 ⟨σ,tm,M,hr,h⟩
 | n+1,it::k,tm,M,h=>by
  have h:XS L Q (XK L Q n) (it::k) tm M:=h;have ih : ∀ k tm M,XK L Q n k tm M->AH L k tm M Q:=λ k tm M h=>kM h
  intro σ st hr;cases it with
  | blk id=>exact Kx.2 (ih _ _ _ h σ st hr)
  | er ts ss =>
   simp only[XS,Yj,ZT]at h;cases ss with
   | cons s r=>exact h.elim
   | nil =>
    refine Add.2 (ih _ _ _ h σ _ ⟨λ j => ?_,hr.sat⟩);rw[dT,aB,tC,kV,Bool.false_or];cases hc:ts.contains j
    ·simp only[Bool.false_eq_true,if_false,cond_false]
     exact hr.tm j
    ·exact Or.inl rfl
  | lp c=>exact h σ st hr
  | code c =>
   cases c with
   | skip=>exact Mr.2 (ih _ _ _ h σ st hr)
   | ops l d=>exact Mn.2 (sR h (λ v9 M' h'=>ih _ _ _ h') σ st hr)
   | dr c ts ss=>exact Mh.2 (ih _ _ _ h σ st hr)
   | scope c=>exact Mp.2 (ih _ _ _ h σ st hr)
   | seq a b=>exact Mq.2 (ih _ _ _ h σ st hr)
   | cond x a b =>
    simp only[XS]at h;split at h
    ·rename_i b' e
     rw[U2]at h;rw[Mg (hr.ev e (by intro e;cases e))];cases b'
     ·simpa using ih _ _ _ h σ st hr
     ·simpa using ih _ _ _ h σ st hr
    ·exact h.elim
   | block id c=>exact Mf.2 (ih _ _ _ h σ st hr)
   | loop c=>exact Mj.2 (rT.1 (h σ st hr))
   | exit id =>
    simp only[XS]at h;split at h
    ·rename_i k' e
     exact (Mi e).2 (ih _ _ _ h σ st hr)
    ·exact h.elim
   | ret=>exact Mo.2 ⟨σ,tm,M,hr,h⟩
theorem Akq (hr:RX σ tm M st) {r:ML} {K:AV->Prop} (h:dH tm M r K) : ∃ v,H2 st r=some (C9 σ v)/\K v/\C9 σ v=DP σ v:=by
 cases r with
 | tmp t =>
  simp only[dH]at h;obtain ⟨h1,h2,h3⟩:=yH (σ:=σ) h;refine ⟨_,?_,h3,h2⟩;rcases hr.tm t with e|e
  ·exact absurd e h1
  ·simp only[H2,e]
   cases hv:tg tm t<;>rw[hv]at h h1<;>first|rfl|exact (h:False).elim
 | cell t agg n =>
  simp only[dH]at h;split at h
  ·rename_i key i j e
   split at h
   ·rename_i s cs hm
    cases hi:Nat.beq i 0<;>simp only[hi,cond_true,cond_false]at h;obtain rfl:=DI.1 hi;split at h
    ·rename_i ds hp
     rw[J6]at h;rcases hr.tm t with e'|e'
     ·rw[e]at e';cases e'
     ·have hs:=hr.sat.site _ _ _ hm
      have s9:=hr.sat.blk _ _ _ (GK hm);rw[hs]at s9;have flat : ∀ v,ME agg (ds.map (CZ σ))=some (C9 σ v)->H2 st (.cell t agg n)=some (C9 σ v):=by
       intro v hv;simp only[H2,e',e,GY,BT.jb,BT.get,hs,s9,CQ.blk,List.getElem?_cons_zero,cY hp,hv]
      cases agg
      ·simp only[jd]at h
       split at h
       ·rename_i c
        obtain ⟨_,h1,h2⟩:=yI (σ:=σ) h;refine ⟨c,flat c (by rw[h1];rfl),h2,?_⟩;rw[h1];cases c<;>first|rfl|exact (h:False).elim
       ·exact h.elim
      ·exact ⟨.agg ds,flat _ rfl,h,rfl⟩
    ·exact h.elim
   ·exact h.elim
  ·exact h.elim
theorem pJ (hr:RX σ tm M st) : ∀ {l:List ML} {K:List AV->Prop},iV tm M l K -> ∃ vs,l.mapM (H2 st)=some (vs.map (C9 σ))/\K vs/\vs.map (C9 σ)=vs.map (DP σ)
 | [],K,h=>⟨[],rfl,h,rfl⟩
 | r::l,K,h=>by
  obtain ⟨v,h1,h2,h3⟩:=Akq hr (show dH tm M r λ v=>iV tm M l λ vs=>K (v::vs) from h);obtain ⟨vs,h4,h5,h6⟩:=pJ hr h2;exact ⟨v::vs,by rw[List.mapM_cons,h1,h4];rfl,h5,by rw[List.map_cons,List.map_cons,h3,h6]⟩
theorem Er (hs:NR σ st.own M) {q:Bool} : ∀ {l:List AV} {K:List AV->Prop},qD q M l K -> ∃ l',(l.map (C9 σ)).mapM (F6 st.own q)=some l'/\K l' /\ ∀ v∈l,C9 σ v=DP σ v
 | [],K,h=>⟨[],rfl,h,λ v hv=>by cases hv⟩
 | v::r,K,h=>by
  obtain ⟨v',h1,h2,_,h0⟩:=qE hs (show WJ q M [] v λ v'=>qD q M r λ r'=>K (v'::r') from h);obtain ⟨l',h3,h4,h5⟩:=Er hs h2;refine ⟨v'::l',?_,h4,λ u hu => ?_⟩
  ·rw[List.map_cons,List.mapM_cons,show F6 st.own q (C9 σ v)=some v' from h1,h3];rfl
  ·rcases List.mem_cons.1 hu with rfl|hu
   ·exact h0
   ·exact h5 u hu
theorem AkS {own:BT} {q:Bool} {v v':AV} (h:F6 own q v=some v'):WK own q v=some v':=by
 cases v with
 | tup vs=>simp [F6,snap]at h
 | _=>exact h
theorem Zs {f:AV->Option AV} {x y:AV} {r l':List AV} (h:(x::y::r).mapM f=some l') : ∃ a b c,l'=a::b::c:=by
 rw[List.mapM_cons,List.mapM_cons]at h;cases hx:f x with
 | none=>rw[hx]at h;cases h
 | some a =>
  cases hy:f y with
  | none=>rw[hx,hy]at h;cases h
  | some b =>
   cases hr:r.mapM f with
   | none=>rw[hx,hy,hr]at h;cases h
   | some c =>
    rw[hx,hy,hr]at h;exact ⟨a,b,c,(Option.some.inj h).symm⟩
theorem sP {fn:AFn} {r:AV} (hr:RX σ tm M st) (h:VV fn r tm M):aR fn r st:=by
 unfold VV at h;obtain ⟨vs,h1,h2,h3⟩:=pJ hr h;obtain ⟨l',h4,h5,h6⟩:=Er hr.sat h2;unfold aR;rw[h1,Option.map_some,Option.bind_some];match vs,l',h4,h5 with
 | [],l',h4,h5 =>
  obtain rfl:=Option.some.inj h4;obtain ⟨e,hc⟩:=h5;exact ⟨by rw[<-e];rfl,hc⟩
 | [v],l',h4,h5 =>
  rw[List.map_cons,List.map_nil,List.mapM_cons]at h4;cases hv:F6 st.own false (C9 σ v) with
  | none=>rw[hv]at h4;cases h4
  | some v' =>
   rw[hv]at h4;obtain rfl:=Option.some.inj h4;obtain ⟨e,hc⟩:=h5;exact ⟨by rw[<-e];exact AkS hv,hc⟩
 | v::u::w,l',h4,h5 =>
  obtain ⟨a,b,c,rfl⟩:=Zs (show List.mapM (F6 st.own false) (C9 σ v::C9 σ u::w.map (C9 σ))=some l' from h4);obtain ⟨e,hc⟩:=h5;refine ⟨?_,hc⟩;rw[<-e];have h4:List.mapM (F6 st.own false) (C9 σ v::C9 σ u::w.map (C9 σ))=some (a::b::c):=h4;show Option.map AV.tup (List.mapM (F6 st.own false) (C9 σ v::C9 σ u::w.map (C9 σ)))=_;rw[h4];rfl
def V0:AV->Bool
 | .agg cs=>G1 cs
 | v=>kn v
def NX:List AV->Bool
 | []=>true
 | v::r=>bif V0 v then NX r else false
theorem gH {v:AV} (h:V0 v=true):C9 σ v=v:=by
 cases v with
 | agg cs=>simp only[V0]at h;simp only[C9,DP,L4 h]
 | _=>first|rfl|cases h
theorem bM {σ:II} : ∀ {vs:List AV} {i:Nat},NX vs=true -> ∀ j,c9 (ET i vs) j=C9 σ (c9 (ET i vs) j)
 | [],_,_,_=>rfl
 | v::r,i,h,j=>by
  simp only[NX]at h;cases hv:V0 v<;>simp only[hv,cond_true,cond_false]at h
  ·cases h
  ·simp only[Xv,dV]
   split
   ·exact (gH hv).symm
   ·exact bM h j
theorem IU.x {f:Nat} {fn:AFn} {vs:List AV} {r:AV} (hL:L f=some fn) (hp:Nat.beq vs.length fn.v8=true) (hd:NX vs=true) (h:AH L [.code fn.body] (ET 0 vs) [] (VV fn r)):IU L f vs r:=by
 refine IU.fwd hL (DI.1 hp) (Ml (h (λ_ _=>(0,0)) ⟨ET 0 vs,BT.emp⟩ ⟨λ j=>Or.inr ?_,?_⟩) ?_)
 ·rw[NG];exact bM hd j
 ·exact ⟨(λ_ _ _ e=>by cases e),(λ_ _ _ e=>by simp [b7,c5]at e),(λ_ _ _ e=>by simp [b7,c5]at e),(λ_ _ _ _ _ _ e=>by simp [b7,c5]at e),(λ_ _ _ e=>by simp [b7,c5]at e)⟩
 ·rintro s ⟨σ,tm,M,hr,hq⟩
  exact sP hr hq
theorem Ev.x {f:Nat} {fn:AFn} {vs:List AV} {r:AV} (hL:L f=some fn) (hp:Nat.beq vs.length fn.v8=true) (hd:NX vs=true) (h:AH L [.code fn.body] (ET 0 vs) [] (VV fn r)) (hs:fn.jf=false:=by rfl):Ev L f vs r:=(IU.x hL hp hd h).ev hL hs
def IX:List (Nat × Nat)->Nat->Nat
 | [],k=>k
 | (a,b)::r,k=>bif Nat.beq k a then b else IX r k
def iY (τ:List (Nat × Nat)):AV->AV
 | .row k t z o n => .row (IX τ k) t z o n
 | .ptr k t i j => .ptr (IX τ k) t i j
 | v=>v
def WH (τ:List (Nat × Nat)):List AV->List AV
 | []=>[]
 | v::r=>iY τ v::WH τ r
def Z9 (τ:List (Nat × Nat)):AV->AV
 | .agg cs => .agg (WH τ cs)
 | .fn p f g cs => .fn p f g (WH τ cs)
 | v=>iY τ v
def jA (τ:List (Nat × Nat)):List AV->List AV
 | []=>[]
 | v::r=>Z9 τ v::jA τ r
def iZ (τ:List (Nat × Nat)):AV->AV
 | .tup cs => .tup (jA τ cs)
 | v=>Z9 τ v
def jD (τ:List (Nat × Nat)):List (List AV)->List (List AV)
 | []=>[]
 | v::r=>WH τ v::jD τ r
def NB (τ:List (Nat × Nat)):CQ->CQ
 | .bx cs => .bx (WH τ cs)
 | .rw z es => .rw z es
 | .bs z es => .bs z (jD τ es)
 | .mx rows => .mx rows
 | .hx i v rows => .hx i v rows
 | .vw w rows => .vw w rows
variable {τ:List (Nat × Nat)}
theorem dI : ∀ l:List AV,WH τ l=l.map (iY τ)
 | []=>rfl
 | v::r=>by rw[WH,dI r];rfl
theorem Fy : ∀ l:List AV,jA τ l=l.map (Z9 τ)
 | []=>rfl
 | v::r=>by rw[jA,Fy r];rfl
theorem jO (v:AV):CZ (λ k t=>σ (IX τ k) t) v=CZ σ (iY τ v):=by cases v<;>rfl
theorem qO (v:AV):DP (λ k t=>σ (IX τ k) t) v=DP σ (Z9 τ v):=by
 cases v with
 | agg cs=>simp only[DP,Z9,dI,List.map_map];exact congrArg AV.agg (List.map_congr_left λ v _=>jO v)
 | fn p f g cs=>simp only[DP,Z9,dI,List.map_map];exact congrArg (AV.fn p f g) (List.map_congr_left λ v _=>jO v)
 | _=>rfl
theorem AkX (v:AV):C9 (λ k t=>σ (IX τ k) t) v=C9 σ (iZ τ v):=by
 cases v with
 | tup cs=>simp only[C9,iZ,Fy,List.map_map];exact congrArg AV.tup (List.map_congr_left λ v _=>qO v)
 | agg cs=>exact qO (.agg cs)
 | fn p f g cs=>exact qO (.fn p f g cs)
 | _=>rfl
theorem Fz : ∀ l:List (List AV),jD τ l=l.map (WH τ)
 | []=>rfl
 | v::r=>by rw[jD,Fz r];rfl
theorem cQ {k:Nat} : ∀ (rows:List (Option (Nat × List (List AV)))) (i:Nat),DZ (λ k t=>σ (IX τ k) t) k i rows=DZ σ (IX τ k) i rows
 | [],i=>rfl
 | none::r,i=>by rw[DZ,DZ,cQ r]
 | some (z,es)::r,i=>by rw[DZ,DZ,cQ r]
theorem Ni (c:CQ) (k:Nat):c.blk (λ k t=>σ (IX τ k) t) k=(NB τ c).blk σ (IX τ k):=by
 cases c with
 | bx cs =>
  simp only[CQ.blk,NB,dI,List.length_map,List.map_map];rw[List.map_congr_left λ v _=>jO v];rfl
 | rw z es=>rfl
 | bs z es =>
  simp only[CQ.blk,NB,Fz,List.map_map];congr 1;refine List.map_congr_left λ cs _ => ?_
  simp only[Function.comp,dI,List.map_map];exact List.map_congr_left λ v _=>jO v
 | mx rows=>simp only[CQ.blk,NB,cQ]
 | hx i v rows=>simp only[CQ.blk,NB,cQ]
 | vw w rows=>simp only[CQ.blk,NB,cQ]
def oh (k s:Nat) (c:CQ):Mem->Mem
 | []=>[(k,s,c)]
 | (j,s',c')::r=>bif Nat.beq k j then (k,s,c)::r else (j,s',c')::oh k s c r
def gn:Mem->Mem
 | []=>[]
 | (k,s,c)::r=>oh k s c (gn r)
theorem Ej (k s:Nat) (c:CQ) (j:Nat) : ∀ M:Mem,c5 (oh k s c M) j=bif Nat.beq j k then some (s,c) else c5 M j
 | []=>rfl
 | (i,s',c')::r=>by
  simp only[oh];cases hk:Nat.beq k i
  ·simp only[cond_false,c5,Ej k s c j r]
   cases hj:Nat.beq j i<;>cases hjk:Nat.beq j k<;>simp only[cond_true,cond_false];exact absurd ((DI.1 hjk).symm.trans (DI.1 hj)) (IE.1 hk)
  ·obtain rfl:=DI.1 hk
   simp only[cond_true,c5];cases Nat.beq j k<;>rfl
theorem ZY (j:Nat) : ∀ M:Mem,c5 (gn M) j=c5 M j
 | []=>rfl
 | (k,s,c)::r=>by simp only[gn,Ej,ZY j r,c5]
theorem iG (k t:Nat):b7 (gn M) k t=b7 M k t:=by simp only[b7,ZY]
def oe (τ:List (Nat × Nat)) (M:Mem):List (Nat × Nat × CQ)->List (Option (Nat × CQ))
 | []=>[]
 | (k,_,_)::r=>c5 M (IX τ k)::oe τ M r
def og (τ:List (Nat × Nat)):List (Nat × Nat × CQ)->List (Option (Nat × CQ))
 | []=>[]
 | (_,s,c)::r=>some (s,NB τ c)::og τ r
def yq (tm:Tm):Tm->List AV
 | []=>[]
 | (j,_)::r=>tg tm j::yq tm r
def yu (τ:List (Nat × Nat)):Tm->List AV
 | []=>[]
 | (_,v)::r=>iZ τ v::yu τ r
def iM:List Nat->Bool
 | []=>true
 | k::r=>bif U8 k r then false else iM r
def keys (τ:List (Nat × Nat)):Mem->List Nat
 | []=>[]
 | (k,_,_)::r=>IX τ k::keys τ r
theorem Ei : ∀ {M':Mem} {M:Mem},oe τ M M'=og τ M' -> ∀ k s c,c5 M' k=some (s,c)->c5 M (IX τ k)=some (s,NB τ c)
 | [],_,_,_,_,_,e=>by cases e
 | (i,s',c')::r,M,h,k,s,c,e=>by
  simp only[oe,og,List.cons.injEq]at h;simp only[c5]at e;cases hb:Nat.beq k i<;>simp only[hb,cond_true,cond_false]at e
  ·exact Ei h.2 k s c e
  ·simp only[Option.some.injEq,Prod.mk.injEq]at e
   obtain ⟨rfl,rfl⟩:=e;rw[DI.1 hb];exact h.1
theorem oH : ∀ {M:Mem} {k s:Nat} {c:CQ},c5 M k=some (s,c)->U8 (IX τ k) (keys τ M)=true
 | (i,s',c')::r,k,s,c,e=>by
  simp only[c5]at e;simp only[keys,U8];cases hb:Nat.beq k i<;>simp only[hb,cond_true,cond_false]at e
  ·rw[oH e];cases Nat.beq (IX τ k) (IX τ i)<;>rfl
  ·rw[DI.1 hb];simp
theorem Da : ∀ {M:Mem},iM (keys τ M)=true -> ∀ {k k' s s':Nat} {c c':CQ},c5 M k=some (s,c)->c5 M k'=some (s',c')->IX τ k=IX τ k'->k=k'
 | [],_,_,_,_,_,_,_,e,_,_=>by cases e
 | (i,s0,c0)::r,h,k,k',s,s',c,c',e,e',hk=>by
  simp only[keys,iM]at h;cases hm:U8 (IX τ i) (keys τ r)<;>simp only[hm,cond_true,cond_false]at h
  ·simp only[c5]at e e'
   cases hb:Nat.beq k i<;>cases g7:Nat.beq k' i<;>simp only[hb,g7,cond_true,cond_false]at e e'
   ·exact Da h e e' hk
   ·obtain rfl:=DI.1 g7
    have:=oH (τ:=τ) e
    rw[hk,hm]at this;cases this
   ·obtain rfl:=DI.1 hb
    have:=oH (τ:=τ) e'
    rw[<-hk,hm]at this;cases this
   ·exact (DI.1 hb).trans (DI.1 g7).symm
  ·cases h
theorem Ia : ∀ {v9:Tm} {tm:Tm},yq tm v9=yu τ v9 -> ∀ j,tg v9 j = .any\/tg tm j=iZ τ (tg v9 j)
 | [],_,_,_=>Or.inl rfl
 | (i,v)::r,tm,h,j=>by
  simp only[yq,yu,List.cons.injEq]at h;simp only[tg];cases hb:Nat.beq j i<;>simp only[cond_true,cond_false]
  ·exact Ia h.2 j
  ·rw[DI.1 hb];exact Or.inr h.1
def u6 (ts:List Nat) (tm:Tm):Tm:=match ts with
 | []=>tm
 | t::ts=>mo (mask 0 (t::ts)) tm
def TM (τ:List (Nat × Nat)) (tm:Tm) (M:Mem) (v9:Tm) (M':Mem):Prop :=
 fT (mo 0 v9) λ l=>fM (gn M') λ m=>yq tm l=yu τ l/\oe τ M m=og τ m/\iM (keys τ m)=true
theorem DE {k:List It} {v9:Tm} {M':Mem} {Q:Tm->Mem->Prop} (τ:List (Nat × Nat)) (he:TM τ tm M v9 M') (h:AH L k v9 M' Q):AH L k tm M Q:=by
 unfold TM at he;rw[ZT,N3]at he;obtain ⟨ht,hm,hn⟩:=he;intro σ st hr;have hg : ∀ k s c,c5 M' k=some (s,c)->c5 M (IX τ k)=some (s,NB τ c):=λ k s c e=>Ei hm k s c (by rw[ZY];exact e)
 have uy : ∀ k t c,b7 M' k t=some c->b7 M (IX τ k) t=some (NB τ c):=by
  intro k t c e;obtain ⟨s,c0,g1,g2,g3⟩:=KQ e;have:=hg k s c0 g1
  cases t with
  | zero=>rw[g2 rfl];exact GK this
  | succ i =>
   obtain ⟨rows,z,es,(rfl|⟨a,v,rfl⟩)|⟨w,rfl⟩,hr,rfl⟩:=g3 i rfl
   ·simp [b7,this,NB,hr]
   ·simp [b7,this,NB,hr]
   ·simp [b7,this,NB,hr]
 refine h (λ k t=>σ (IX τ k) t) st ⟨λ j => ?_,⟨?_,?_,?_,?_,?_⟩⟩
 ·have:=Ia ht j
  rw[dT,kV,cond_false]at this;rcases this with e|e
  ·exact Or.inl e
  ·rcases hr.tm j with e'|e'
   ·left
    rw[e']at e;cases hv:tg v9 j<;>rw[hv]at e<;>first|rfl|cases e
   ·right
    rw[e',e,AkX]
 ·intro k s c e;exact hr.sat.site _ _ _ (hg k s c e)
 ·intro k t c e;rw[Ni];exact hr.sat.blk _ _ _ (uy k t c e)
 ·intro k t c e;exact hr.sat.old _ _ _ (uy k t c e)
 ·intro k t k' t' c c' e e' hk
  obtain ⟨q1,q2⟩:=hr.sat.inj _ _ _ _ _ _ (uy _ _ _ e) (uy _ _ _ e') hk;obtain ⟨s,c0,g,_⟩:=KQ e;obtain ⟨s',c0',g',_⟩:=KQ e';exact ⟨Da hn (by rw[ZY];exact g) (by rw[ZY];exact g') q1,q2⟩
 ·intro k t c e hw
  exact hr.sat.low _ _ _ (uy k t c e) (by cases c<;>exact hw)
theorem C6 {k:List It} {v9:Tm} {M':Mem} {Q:Tm->Mem->Prop} (τ:List (Nat × Nat)) (h:AH L k v9 M' Q) (he:TM τ tm M v9 M':=by (conv=>whnf);exact ⟨rfl,rfl,rfl⟩):AH L k tm M Q:=DE τ he h
theorem rO {k:List It} {Q:Tm->Mem->Prop} (h:AH L k (mo 0 tm) (gn M) Q):AH L k tm M Q:=by
 intro σ st hr;refine h σ st ⟨λ j => ?_,⟨?_,?_,?_,?_,?_⟩⟩
 ·rw[dT,kV,cond_false];exact hr.tm j
 ·intro k s c e;rw[ZY]at e;exact hr.sat.site _ _ _ e
 ·intro k t c e;rw[iG]at e;exact hr.sat.blk _ _ _ e
 ·intro k t c e;rw[iG]at e;exact hr.sat.old _ _ _ e
 ·intro k t k' t' c c' e e' hk
  rw[iG]at e e';exact hr.sat.inj _ _ _ _ _ _ e e' hk
 ·intro k t c e hw;rw[iG]at e;exact hr.sat.low _ _ _ e hw
def ml (k:Nat) (c:CQ):Mem->Mem
 | []=>[]
 | (j,s,c')::r=>bif Nat.beq k j then (j,s,c)::r else (j,s,c')::ml k c r
theorem iE {k j s:Nat} {c c':CQ} : ∀ {M:Mem},c5 (ml k c M) j=some (s,c') -> ∃ c0,c5 M j=some (s,c0)/\(c0=c'\/(j=k/\c'=c))
 | [],e=>by cases e
 | (i,s0,c0)::r,e=>by
  simp only[ml]at e;cases hk:Nat.beq k i<;>simp only[hk,cond_true,cond_false,c5]at e ⊢
  ·cases hj:Nat.beq j i<;>simp only[hj,cond_true,cond_false]at e ⊢
   ·exact iE e
   ·exact ⟨c',e,Or.inl rfl⟩
  ·cases hj:Nat.beq j i<;>simp only[hj,cond_true,cond_false]at e ⊢
   ·exact ⟨c',e,Or.inl rfl⟩
   ·simp only[Option.some.injEq,Prod.mk.injEq]at e
    obtain ⟨rfl,rfl⟩:=e;exact ⟨c0,rfl,Or.inr ⟨(DI.1 hj).trans (DI.1 hk).symm,rfl⟩⟩
theorem dX {kk:List It} {Q:Tm->Mem->Prop} (k s:Nat) (e:c5 M k=some (s,.rw 1 [])) (h:AH L kk tm (ml k (.mx []) M) Q):AH L kk tm M Q:=by
 intro σ st hr;have hg : ∀ j t c,b7 (ml k (.mx []) M) j t=some c -> ∃ c0,b7 M j t=some c0/\c0.blk σ j=c.blk σ j:=by
  intro j t c g;obtain ⟨s1,c1,g1,g2,g3⟩:=KQ g;obtain ⟨c0,q1,q2⟩:=iE g1;cases t with
  | zero =>
   rw[g2 rfl];rcases q2 with rfl|⟨rfl,rfl⟩
   ·exact ⟨_,GK q1,rfl⟩
   ·rw[e]at q1
    simp only[Option.some.injEq,Prod.mk.injEq]at q1;obtain ⟨rfl,rfl⟩:=q1;exact ⟨_,GK e,rfl⟩
  | succ i =>
   obtain ⟨rows,z,es,(rfl|⟨a,v,rfl⟩)|⟨w,rfl⟩,rn,rfl⟩:=g3 i rfl
   ·rcases q2 with rfl|⟨rfl,h0⟩
    ·exact ⟨.rw z es,by simp [b7,q1,rn],rfl⟩
    ·obtain rfl:rows=[]:=by simpa using h0
     simp at rn
   ·rcases q2 with rfl|⟨rfl,h0⟩
    ·exact ⟨.rw z es,by simp [b7,q1,rn],rfl⟩
    ·cases h0
   ·rcases q2 with rfl|⟨rfl,h0⟩
    ·exact ⟨.rw z es,by simp [b7,q1,rn],rfl⟩
    ·cases h0
 refine h σ st ⟨hr.tm,⟨?_,?_,?_,?_,?_⟩⟩
 ·intro j s' c g
  obtain ⟨c0,q1,_⟩:=iE g;exact hr.sat.site _ _ _ q1
 ·intro j t c g
  obtain ⟨c0,q1,q2⟩:=hg j t c g;rw[<-q2];exact hr.sat.blk _ _ _ q1
 ·intro j t c g
  obtain ⟨c0,q1,_⟩:=hg j t c g;exact hr.sat.old _ _ _ q1
 ·intro j t j' t' c c' g g' hj
  obtain ⟨_,q1,_⟩:=hg j t c g;obtain ⟨_,q2,_⟩:=hg j' t' c' g';exact hr.sat.inj _ _ _ _ _ _ q1 q2 hj
 ·intro j t c g hw
  cases t with
  | zero =>
   obtain ⟨s1,c1,g1,g2,g3⟩:=KQ g;obtain ⟨c0,q1,q2⟩:=iE g1;have g2:=g2 rfl;subst g2;rcases q2 with rfl|⟨rfl,rfl⟩
   ·exact hr.sat.low _ _ _ (GK q1) hw
   ·exact hr.sat.low _ _ _ (GK e) rfl
  | succ t =>
   obtain ⟨c0,q1,_⟩:=hg _ _ _ g;exact hr.sat.low _ _ _ q1 (iH q1)
theorem WS {k:List It} {c:C1} {Q:Tm->Mem->Prop} (h:AH L (.code c :: .lp c::k) tm M Q):AH L (.lp c::k) tm M Q:=λ σ st hr=>rT.2 (h σ st hr)
theorem YZ {α:Type} {k:List It} {c:C1} {Q:Tm->Mem->Prop} (m:α->Nat) (P:α->Prop) (vs:α->Tm) (Ms:α->Mem) (ts:List Nat) (τ:List (Nat × Nat)) (a:α)
  (he:TM τ tm M (vs a++u6 ts tm) (Ms a++M)) (hp:P a)
  (step : ∀ a,P a->(∀ a',m a'<m a->P a'->AH L (.lp c::k) (vs a'++u6 ts tm) (Ms a'++M) Q)->AH L (.code c :: .lp c::k) (vs a++u6 ts tm) (Ms a++M) Q):AH L (.lp c::k) tm M Q:=by
 have key : ∀ n a,m a<n->P a->AH L (.lp c::k) (vs a++u6 ts tm) (Ms a++M) Q:=by
  intro n;induction n with
  | zero=>intro a h;omega
  | succ n ih =>
   intro a ha hp;exact WS (step a hp λ a' h1 h2=>ih a' (by omega) h2)
 exact DE τ he (key (m a+1) a (by omega) hp)
end
end Go.Eng
namespace Go.Eng
section
variable {α:Type} {enc:α->List AV} {l:List α} {L:Lib}
theorem BR {p q A B:Prop} (h1:p->A) (h2:q->B):BJ p q A B:=⟨h1,h2⟩
theorem CE {p A:Prop} (h1:p) (h2:A):B1 p A:=⟨h1,h2⟩
section
variable {K:AV->Prop} {a b:Int} {k k':IntKind} {op:BinOp}
theorem eD {v:AV} (h:F4 op k a k' b=some v) (hk:K v):BD op k a k' b K:=⟨v,h,hk⟩
theorem CG (hr : -9223372036854775808<=a+b/\a+b<=9223372036854775807) (hk:K (.int .i64 (a+b))):BD .add .i64 a .i64 b K:=⟨_,by simp only[F4,if_true];rw[IntWalk.i64_in _ hr],hk⟩
theorem D4 (hr : -9223372036854775808<=a-b/\a-b<=9223372036854775807) (hk:K (.int .i64 (a-b))):BD .sub .i64 a .i64 b K:=⟨_,by simp only[F4,if_true];rw[IntWalk.i64_in _ hr],hk⟩
theorem NQ (hr : -9223372036854775808<=a*b/\a*b<=9223372036854775807) (hk:K (.int .i64 (a*b))):BD .mul .i64 a .i64 b K:=⟨_,by simp only[F4,if_true];rw[IntWalk.i64_in _ hr],hk⟩
theorem Y6 (hb:0<b) (h1:(0<=a\/a%b=0)->0<=a%b->a%b<b->K (.int .i64 (a%b))) (h2:a<0->a%b≠0->0<=a%b->a%b<b->K (.int .i64 (a%b-b))):BD .rem .i64 a .i64 b K:=by
 have h5:0<=a%b:=Int.emod_nonneg _ (by omega);have h6:a%b<b:=Int.emod_lt_of_pos _ hb;have e:F4 .rem .i64 a .i64 b=some (.int .i64 (a.tmod b)):=by simp only[F4];rw[if_pos ⟨trivial,by omega⟩]
 by_cases hc:0<=a\/a%b=0
 ·rw[Ib hb,if_pos hc]at e
  exact ⟨_,e,h1 hc h5 h6⟩
 ·rw[Ib hb,if_neg hc]at e
  exact ⟨_,e,h2 (by omega) (by omega) h5 h6⟩
theorem W2 (hb:0<b) (ha : -9223372036854775808<=a/\a<=9223372036854775807) (h1:(0<=a\/a%b=0)->K (.int .i64 (a/b))) (h2:a<0->a%b≠0->K (.int .i64 (a/b+1))):BD .quo .i64 a .i64 b K:=by
 have hr:=Sy (m:=b) (by omega) ha;have e:F4 .quo .i64 a .i64 b=some (.int .i64 (IntKind.i64.wrap (a.tdiv b))):=by simp only[F4];rw[if_pos ⟨trivial,by omega⟩]
 by_cases hc:0<=a\/a%b=0
 ·rw[Hz hb,if_pos hc,IntWalk.i64_in _ hr]at e
  exact ⟨_,e,h1 hc⟩
 ·have Aol:a/b<0:=Int.ediv_neg_of_neg_of_pos (by omega) hb
  rw[Hz hb,if_neg hc,IntWalk.i64_in _ (by omega)]at e;exact ⟨_,e,h2 (by omega) (by omega)⟩
theorem Lx (h:0<=b/\b<=63) (hk:K (.int .i64 (a/pw b))):BD .shr .i64 a k' b K:=⟨_,AkK h,hk⟩
theorem Lz (hk:K (.int k (k.wrap (a+b)))):BD .add k a k b K:=⟨_,by simp only[F4,if_true],hk⟩
theorem E6.neg (hr : -9223372036854775808 <= -a /\ -a<=9223372036854775807) (hk:K (.int .i64 (-a))):E6 .neg .i64 a K:=⟨_,by simp only[WR];rw[show (0:Int)-a = -a by omega,IntWalk.i64_in _ hr],hk⟩
theorem E6.go {op:UnOp} {v:AV} (h:WR op (.int k a)=some v) (hk:K v):E6 op k a K:=⟨v,h,hk⟩
end
theorem aH {k:IntKind} {n:Int} {K:Int->Prop} (e:k.wrap n=n) (h:K n):CF k n K:=by unfold CF;rw[e];exact h
theorem EG {n:Int} {K:Int->Prop} (hr:0<=n/\n<=18446744073709551615) (h:K n):CF .u64 n K:=aH (IntWalk.u64_in _ hr) h
theorem WT {n:Int} {K:Int->Prop} (hr : -9223372036854775808<=n/\n<=9223372036854775807) (h:K n):CF .i64 n K:=aH (IntWalk.i64_in _ hr) h
theorem CX {a:Int} {z:Nat} {K:List AV->Prop} {e:α} (he:l[a.toNat]? = some e) (h0:0<=a) (hz:(enc e).length=z) (h:K (enc e)):CI (l.map enc) a z K:=⟨h0,enc e,by simp [he],hz,h⟩
theorem kK {a:Int} {z:Nat} {K:List AV->Prop} (h0:0<=a/\a<l.length) (hz : ∀ e,(enc e).length=z) (h : ∀ e,l[a.toNat]? = some e->K (enc e)):CI (l.map enc) a z K:=by
 have he:l[a.toNat]? = some (l[a.toNat]'(by omega)):=zE _;exact CX he h0.1 (hz _) (h _ he)
theorem Mc {n z:Nat} {K:List AV->Prop} (hn:n<l.length) (hz : ∀ e,(enc e).length=z) (h : ∀ e,l[n]? = some e->K (enc e)):CI (l.map enc) (n:Int) z K :=
 kK ⟨by omega,by omega⟩ hz h
theorem HX {i j n:Nat} {K:List AV->Prop} {f:α->List AV} (hi:i<l.length) (hp : ∀ e,part (enc e) j n=some (f e)) (h : ∀ e,l[i]? = some e->K (f e)):CY (l.map enc) (0+((i:Int)).toNat) j n K:=by
 have he:l[i]? = some l[i]:=zE _;rw[Nat.zero_add,Int.toNat_natCast];exact ⟨enc l[i],f l[i],by simp [he],hp _,h _ he⟩
theorem aP {i:Int} {j n:Nat} {K:List AV->Prop} {f:α->List AV} (hi:0<=i/\i<l.length) (hp : ∀ e,part (enc e) j n=some (f e)) (h : ∀ e,l[i.toNat]? = some e->K (f e)):CY (l.map enc) (0+i.toNat) j n K:=by
 have hl:i.toNat<l.length:=by omega
 have he:l[i.toNat]? = some l[i.toNat]:=zE _;rw[Nat.zero_add];exact ⟨enc l[i.toNat],f l[i.toNat],by rw[List.getElem?_map,he];rfl,hp _,h _ he⟩
theorem G8 {i:Nat} {vs:List AV} {K:List (List AV)->Prop} (e:α) (he:vs=enc e) (hz : ∀ x,(enc x).length=vs.length) (hi:i<l.length) (h:K ((l.set i e).map enc)):CU (l.map enc) (0+((i:Int)).toNat) 0 vs K:=by
 rw[Nat.zero_add,Int.toNat_natCast];refine ⟨enc l[i],by simp [zE hi],by rw[hz];omega,?_⟩;rw[show splice (enc l[i]) 0 vs=vs by simp [splice,<-hz l[i]],he,<-List.map_set];exact h
theorem aO {i j n:Nat} {K:List AV->Prop} {e:α} {ds:List AV} (he:l[i]? = some e) (hp:part (enc e) j n=some ds) (h:K ds):CY (l.map enc) i j n K:=⟨enc e,ds,by simp [he],hp,h⟩
theorem AkW {cs vs:List AV} (h:cs.length=vs.length):splice cs 0 vs=vs:=by
 simp [splice,<-h]
theorem La {i:Nat} {vs:List AV} {K:List (List AV)->Prop} (e:α) (he:vs=enc e) (hz : ∀ x,(enc x).length=vs.length) (hi:i<l.length) (h:K ((l.set i e).map enc)):CU (l.map enc) i 0 vs K:=by
 refine ⟨enc l[i],by simp [zE hi],by rw[hz];omega,?_⟩;rw[AkW (hz _),he,<-List.map_set];exact h
theorem GT {a b:Int} {bytes:Nat} {zero:List AV} {K:List (List AV)->Nat->Prop} (x:α) (n:Nat) (hx:zero=enc x) (hn:a=n) (hr:a<=b/\b*bytes<=140737488355328/\b<=9223372036854775807) (h:K ((List.replicate n x).map enc) n):DX a b bytes zero K:=by
 subst hn hx;refine ⟨⟨by omega,hr.1,by simpa [F3] using hr.2.1,hr.2.2⟩,?_⟩;simpa using h
theorem CB {K:Nat->Prop} (h:K l.length):B5 (l.map enc) K:=by unfold B5;simpa using h
theorem HP {len z bytes:Nat} {vs:List AV} {K:List (List AV)->Nat->Prop} (e:α) (he:vs=enc e) (hl:len=l.length) (hz:vs.length=z) (hr:(l.length+1)*bytes<=140737488355328) (z7:l.length+1<=9223372036854775807) (h:K ((l++[e]).map enc) (l++[e]).length):DT (l.map enc) len [vs] z bytes K:=by
 subst hl;refine ⟨by simp,by simpa using hz,by simpa [F3] using hr,by simpa using z7,?_⟩;rw[List.take_of_length_le (by simp)];simpa [he] using h
theorem dY {len z bytes:Nat} {l':List α} {K:List (List AV)->Nat->Prop} (hl:len=l.length) (hz : ∀ x,(enc x).length=z) (hr:(l.length+l'.length)*bytes<=140737488355328) (z7:l.length+l'.length<=9223372036854775807) (h:K ((l++l').map enc) (l++l').length):DT (l.map enc) len (l'.map enc) z bytes K:=by
 subst hl;refine ⟨by simp,by simp [hz],by simpa [F3] using hr,by simpa using z7,?_⟩;rw[List.take_of_length_le (by simp)];simpa using h
theorem Y1 {z bytes:Nat} {vs:List AV} {K:List (List AV)->Nat->Prop} (e:α) (he:vs=enc e) (hz:vs.length=z) (hb:bytes<=140737488355328) (h:K ([e].map enc) 1):EN [vs] z bytes K :=
 ⟨by simpa using hz,by simpa [F3] using hb,by simp,by simpa [he] using h⟩
theorem VQ {z bytes:Nat} {K:List (List AV)->Nat->Prop} (hz : ∀ x,(enc x).length=z) (hr:l.length*bytes<=140737488355328) (z7:l.length<=9223372036854775807) (h:K (l.map enc) l.length):EN (l.map enc) z bytes K :=
 ⟨by simp [hz],by simpa [F3] using hr,by simpa using z7,by simpa using h⟩
theorem eP {off len:Nat} {K:List (List AV)->Prop} (hl:off+len<=l.length) (h:K (((l.drop off).take len).map enc)):DS (l.map enc) off len K :=
 ⟨by simpa using hl,by rw[<-List.map_drop,<-List.map_take];exact h⟩
theorem oT : ∀ {e:List AV},IW e=true->QB e=true/\e.map nl=e
 | [],_=>⟨rfl,rfl⟩
 | v::r,h=>by
  have hv:IW r=true:=by cases v<;>simp only[IW]at h<;>first|cases h|exact h
  obtain ⟨h1,h2⟩:=oT hv;cases v<;>simp only[IW]at h<;>first|cases h|exact ⟨h1,by rw[List.map_cons,h2];rfl⟩
theorem De : ∀ {es:List (List AV)},(∀ e∈es,IW e=true)->es.map (λ e=>e.map nl)=es
 | [],_=>rfl
 | e::r,h=>by rw[List.map_cons,(oT (h e List.mem_cons_self)).2,De λ x hx=>h x (List.mem_cons_of_mem _ hx)]
theorem eR {es:List (List AV)} {off len:Nat} {K:List (List AV)->Prop} (hl:off+len<=es.length) (hz : ∀ e∈es,IW e=true) (h:K ((es.drop off).take len)):CR es off len K :=
 ⟨hl,λ e he=>(oT (hz e he)).1,by rw[De λ e he=>hz e (List.mem_of_mem_drop (List.mem_of_mem_take he))];exact h⟩
theorem GI {off len:Nat} {K:List (List AV)->Prop} (hz : ∀ x,IW (enc x)=true) (ho:off=0) (hl:len=l.length) (h:K (l.map enc)):CR (l.map enc) off len K:=by
 subst hl ho;refine eR (by simp) (λ e he => ?_) (by rw[List.drop_zero,List.take_of_length_le (by simp)];exact h);obtain ⟨x,_,rfl⟩:=List.mem_map.1 he;exact hz x
theorem J0 {off len:Nat} {K:List (List AV)->Prop} (hz : ∀ x,IW (enc x)=true) (hl:off+len<=l.length) (h:K (((l.drop off).take len).map enc)):CR (l.map enc) off len K:=by
 refine eR (by simpa using hl) (λ e he => ?_) (by rw[<-List.map_drop,<-List.map_take];exact h);obtain ⟨x,_,rfl⟩:=List.mem_map.1 he;exact hz x
theorem G0 {e:List AV} {K:List (List AV)->Prop} (h:K [e]):DS [e] 0 1 K:=⟨by simp,h⟩
theorem KI {e:List AV} {K:List (List AV)->Prop} (h0:IW e=true) (h:K [e]):CR [e] 0 1 K:=eR (by simp) (by simpa using h0) h
theorem Y8 {e e':List AV} {K:List (List AV)->Prop} (h0:IW e=true) (h1:IW e'=true) (h:K [e,e']):CR [e,e'] 0 2 K:=eR (by simp) (by simpa using ⟨h0,h1⟩) h
section
variable {β:Type} {z:Nat} {ll:List (List β)} {en:β->List AV}
abbrev C7 (z:Nat) (en:β->List AV) (ll:List (List β)):List (Option (Nat × List (List AV))):=ll.map λ r=>some (z,r.map en)
theorem HJ {i:Nat} {K:Option (Nat × List (List AV))->Prop} (hi:i<ll.length) (h : ∀ r,ll[i]? = some r->K (some (z,r.map en))):DC (C7 z en ll) (0+((i:Int)).toNat) K:=by
 have he:ll[i]? = some ll[i]:=zE _;exact ⟨_,by rw[Nat.zero_add,Int.toNat_natCast,List.getElem?_map,he];rfl,h _ he⟩
theorem Ln {i:Nat} {K:Nat->List (List AV)->Prop} {r:List β} (hr:ll[i]? = some r) (h:K z (r.map en)):DB (C7 z en ll) i K :=
 ⟨z,r.map en,by rw[List.getElem?_map,hr];rfl,h⟩
theorem H7 {i:Nat} {K:Nat->List (List AV)->Prop} {r:List β} (hr:ll[i]? = some r) (h:K z (r.map en)):DB (C7 z en ll) (0+((i:Int)).toNat) K:=by
 rw[Nat.zero_add,Int.toNat_natCast];exact Ln hr h
theorem eJ {i:Nat} {r r':List β} {K:List (Option (Nat × List (List AV)))->Prop} (hl:r'.length=r.length) (h:K (C7 z en (ll.set i r'))):EV (C7 z en ll) (0+((i:Int)).toNat) z (r.map en) (r'.map en) K:=by
 rw[Nat.zero_add,Int.toNat_natCast];exact ⟨by simpa using hl,by simpa [C7,List.map_set] using h⟩
theorem Y0 {len bytes:Nat} {r:List β} {K:List (Option (Nat × List (List AV)))->Nat->Prop} (hl:len=ll.length) (hr:(ll.length+1)*bytes<=140737488355328) (z7:ll.length+1<=9223372036854775807) (h:K (C7 z en (ll++[r])) (ll++[r]).length):FM (C7 z en ll) len (some (z,r.map en)) bytes K:=by
 subst hl;exact ⟨by simp,by simpa [F3] using hr,z7,by simpa [C7] using h⟩
theorem Gc (q:Bool) : ∀ ll:List (List β),WI q (C7 z en ll)=ll.map λ r=>[AV.sl q (r.map en)]
 | []=>rfl
 | r::l=>by simp only[C7,List.map_cons,WI];rw[show WI q (l.map λ r=>some (z,r.map en))=_ from Gc q l]
theorem NT {q:Bool} {off len:Nat} {K:List (List AV)->Prop} (hz : ∀ x,IW (en x)=true) (ho:off=0) (hl:len=ll.length) (h:K (ll.map λ r=>[AV.sl q (r.map en)])):EZ q (C7 z en ll) off len K:=by
 refine ⟨ho,by simpa using hl,λ z' es hm e he => ?_,by rw[Gc];exact h⟩;obtain ⟨r,_,hr⟩:=List.mem_map.1 hm;simp only[Option.some.injEq,Prod.mk.injEq]at hr;obtain ⟨rfl,rfl⟩:=hr;obtain ⟨x,_,rfl⟩:=List.mem_map.1 he;exact hz x
end
theorem Li {len:Nat} {a:Int} {K:Nat->Nat->Prop} (h0:0<=a/\a<=len) (h:K a.toNat len):DR (some a) none len K:=⟨a.toNat,len,⟨h0.1,rfl⟩,rfl,by omega,h⟩
theorem rW {len:Nat} {b:Int} {K:Nat->Nat->Prop} (h0:0<=b/\b<=len) (h:K 0 b.toNat):DR none (some b) len K:=⟨0,b.toNat,rfl,⟨h0.1,h0.2,rfl⟩,by omega,h⟩
theorem aG {len:Nat} {a b:Int} {K:Nat->Nat->Prop} (h0:0<=a/\a<=b/\b<=len) (h:K a.toNat b.toNat):DR (some a) (some b) len K:=⟨a.toNat,b.toNat,⟨h0.1,rfl⟩,⟨by omega,by omega,rfl⟩,by omega,h⟩
theorem Y7 {z:Nat} {lo hi:Option Int} {K:List (List AV)->Prop} (hz : ∀ x,(enc x).length=z) (h:DR lo hi l.length λ a h=>K (((l.take h).drop a).map enc)):EF z (l.map enc) lo hi K:=by
 refine ⟨by simp [hz],?_⟩;rw[List.length_map];obtain ⟨a,b,h1,h2,h3,h4⟩:=h;refine ⟨a,b,h1,h2,h3,?_⟩;show K _;rw[<-List.map_take,<-List.map_drop];exact h4
theorem UK {z k:Nat} {K:List (List AV)->Prop} (hz : ∀ x,(enc x).length=z) (hk:k<=l.length) (h:K ((l.take k).map enc)):EF z (l.map enc) none (some (k:Int)) K :=
 Y7 hz (rW (by omega) (by simpa using h))
theorem Kz {z k:Nat} {K:List (List AV)->Prop} (hz : ∀ x,(enc x).length=z) (hk:k<=l.length) (h:K ((l.drop k).map enc)):EF z (l.map enc) (some (k:Int)) none K :=
 Y7 hz (Li (by omega) (by simpa using h))
theorem BH {f:Nat} {vs:List AV} {K:AV->Prop} {r:AV} (h:Ev L f vs r) (hk:K r):AR L f vs K:=⟨r,h,hk⟩
theorem rX {f:Nat} {vs:List AV} {K:AV->Prop} {p:Prop} [Decidable p] (h:Ev L f vs (.bool (decide p))) (h1:p->K (.bool true)) (h2 : ¬ p->K (.bool false)):AR L f vs K:=by
 refine ⟨_,h,?_⟩;by_cases e:p
 ·rw[decide_eq_true e];exact h1 e
 ·rw[decide_eq_false e];exact h2 e
theorem CJ {a r:AV} (h:a=r) (hc:CS r):BW a r:=⟨h,hc⟩
theorem I4 {a r:Bool} (h:a=r):BW (.bool a) (.bool r):=⟨by rw[h],by simp [CS]⟩
theorem sE {p:Prop} [Decidable p] (h:p):BW (.bool true) (.bool (decide p)):=⟨by simp [h],by simp [CS]⟩
theorem eB {p:Prop} [Decidable p] (h : ¬ p):BW (.bool false) (.bool (decide p)):=⟨by simp [h],by simp [CS]⟩
theorem FF {k:IntKind} {a b:Int} (h:a=b):BW (.int k a) (.int k b):=⟨by rw[h],by simp [CS]⟩
theorem bF (h : ∀ x,FG (enc x)) : ∀ l:List α,IO (l.map enc)
 | []=>by simp [IO]
 | x::r=>by rw[List.map_cons,IO];exact ⟨h x,bF h r⟩
end
theorem DG {α:Type} {L:Lib} {k:List It} {cd:C1} {tm:Tm} {M:Mem} {Q:Tm->Mem->Prop} (m:α->Nat) (P:α->Prop) (vs:α->Tm) (Ms:α->Mem) (ts:List Nat) (τ:List (Nat × Nat)) (a:α)
  (he:TM τ tm M (vs a++u6 ts tm) (Ms a++M)) (hp:P a)
  (step : ∀ a,P a->(∀ a',m a'<m a->P a'->AH L (.lp cd::k) (vs a'++u6 ts tm) (Ms a'++M) Q)->AH L (.code cd :: .lp cd::k) (vs a++u6 ts tm) (Ms a++M) Q):AH L (.lp cd::k) tm M Q :=
 YZ (α:=α) (λ x=>m x) (λ x=>P x) (λ x=>vs x) (λ x=>Ms x) ts τ a he hp λ a h ih=>step a h λ a' h1 h2=>ih a' h1 h2
theorem I3 {α β:Type} {L:Lib} {k:List It} {cd:C1} {tm:Tm} {M:Mem} {Q:Tm->Mem->Prop} (m:α->β->Nat) (P:α->β->Prop) (vs:α->β->Tm) (Ms:α->β->Mem) (ts:List Nat) (τ:List (Nat × Nat)) (a:α) (b:β)
  (he:TM τ tm M (vs a b++u6 ts tm) (Ms a b++M)) (hp:P a b)
  (step : ∀ a b,P a b->(∀ a' b',m a' b'<m a b->P a' b'->AH L (.lp cd::k) (vs a' b'++u6 ts tm) (Ms a' b'++M) Q)->AH L (.code cd :: .lp cd::k) (vs a b++u6 ts tm) (Ms a b++M) Q):AH L (.lp cd::k) tm M Q :=
 YZ (α:=α × β) (λ x=>m x.1 x.2) (λ x=>P x.1 x.2) (λ x=>vs x.1 x.2) (λ x=>Ms x.1 x.2) ts τ (a,b) he hp λ⟨a,b⟩ h ih=>step a b h λ a' b' h1 h2=>ih (a',b') h1 h2
theorem JJ {α β γ:Type} {L:Lib} {k:List It} {cd:C1} {tm:Tm} {M:Mem} {Q:Tm->Mem->Prop} (m:α->β->γ->Nat) (P:α->β->γ->Prop) (vs:α->β->γ->Tm) (Ms:α->β->γ->Mem) (ts:List Nat) (τ:List (Nat × Nat)) (a:α) (b:β) (c:γ)
  (he:TM τ tm M (vs a b c++u6 ts tm) (Ms a b c++M)) (hp:P a b c)
  (step : ∀ a b c,P a b c->(∀ a' b' c',m a' b' c'<m a b c->P a' b' c'->AH L (.lp cd::k) (vs a' b' c'++u6 ts tm) (Ms a' b' c'++M) Q)->AH L (.code cd :: .lp cd::k) (vs a b c++u6 ts tm) (Ms a b c++M) Q):AH L (.lp cd::k) tm M Q :=
 YZ (α:=α × β × γ) (λ x=>m x.1 x.2.1 x.2.2) (λ x=>P x.1 x.2.1 x.2.2) (λ x=>vs x.1 x.2.1 x.2.2) (λ x=>Ms x.1 x.2.1 x.2.2) ts τ (a,b,c) he hp λ⟨a,b,c⟩ h ih=>step a b c h λ a' b' c' h1 h2=>ih (a',b',c') h1 h2
theorem kD {α β γ δ:Type} {L:Lib} {k:List It} {cd:C1} {tm:Tm} {M:Mem} {Q:Tm->Mem->Prop} (m:α->β->γ->δ->Nat) (P:α->β->γ->δ->Prop) (vs:α->β->γ->δ->Tm) (Ms:α->β->γ->δ->Mem) (ts:List Nat) (τ:List (Nat × Nat)) (a:α) (b:β) (c:γ) (d:δ)
  (he:TM τ tm M (vs a b c d++u6 ts tm) (Ms a b c d++M)) (hp:P a b c d)
  (step : ∀ a b c d,P a b c d->(∀ a' b' c' d',m a' b' c' d'<m a b c d->P a' b' c' d'->AH L (.lp cd::k) (vs a' b' c' d'++u6 ts tm) (Ms a' b' c' d'++M) Q)->AH L (.code cd :: .lp cd::k) (vs a b c d++u6 ts tm) (Ms a b c d++M) Q):AH L (.lp cd::k) tm M Q :=
 YZ (α:=α × β × γ × δ) (λ x=>m x.1 x.2.1 x.2.2.1 x.2.2.2) (λ x=>P x.1 x.2.1 x.2.2.1 x.2.2.2) (λ x=>vs x.1 x.2.1 x.2.2.1 x.2.2.2) (λ x=>Ms x.1 x.2.1 x.2.2.1 x.2.2.2) ts τ (a,b,c,d) he hp λ⟨a,b,c,d⟩ h ih=>step a b c d h λ a' b' c' d' h1 h2=>ih (a',b',c',d') h1 h2
theorem Kr {α β γ δ ε:Type} {L:Lib} {k:List It} {cd:C1} {tm:Tm} {M:Mem} {Q:Tm->Mem->Prop} (m:α->β->γ->δ->ε->Nat) (P:α->β->γ->δ->ε->Prop) (vs:α->β->γ->δ->ε->Tm) (Ms:α->β->γ->δ->ε->Mem) (ts:List Nat) (τ:List (Nat × Nat)) (a:α) (b:β) (c:γ) (d:δ) (e:ε)
  (he:TM τ tm M (vs a b c d e++u6 ts tm) (Ms a b c d e++M)) (hp:P a b c d e)
  (step : ∀ a b c d e,P a b c d e->(∀ a' b' c' d' e',m a' b' c' d' e'<m a b c d e->P a' b' c' d' e'->AH L (.lp cd::k) (vs a' b' c' d' e'++u6 ts tm) (Ms a' b' c' d' e'++M) Q)->AH L (.code cd :: .lp cd::k) (vs a b c d e++u6 ts tm) (Ms a b c d e++M) Q):AH L (.lp cd::k) tm M Q :=
 YZ (α:=α × β × γ × δ × ε) (λ x=>m x.1 x.2.1 x.2.2.1 x.2.2.2.1 x.2.2.2.2) (λ x=>P x.1 x.2.1 x.2.2.1 x.2.2.2.1 x.2.2.2.2) (λ x=>vs x.1 x.2.1 x.2.2.1 x.2.2.2.1 x.2.2.2.2) (λ x=>Ms x.1 x.2.1 x.2.2.1 x.2.2.2.1 x.2.2.2.2) ts τ (a,b,c,d,e) he hp λ⟨a,b,c,d,e⟩ h ih=>step a b c d e h λ a' b' c' d' e' h1 h2=>ih (a',b',c',d',e') h1 h2
theorem Ks {α β γ δ ε ζ:Type} {L:Lib} {k:List It} {cd:C1} {tm:Tm} {M:Mem} {Q:Tm->Mem->Prop} (m:α->β->γ->δ->ε->ζ->Nat) (P:α->β->γ->δ->ε->ζ->Prop) (vs:α->β->γ->δ->ε->ζ->Tm) (Ms:α->β->γ->δ->ε->ζ->Mem) (ts:List Nat) (τ:List (Nat × Nat)) (a:α) (b:β) (c:γ) (d:δ) (e:ε) (f:ζ)
  (he:TM τ tm M (vs a b c d e f++u6 ts tm) (Ms a b c d e f++M)) (hp:P a b c d e f)
  (step : ∀ a b c d e f,P a b c d e f->(∀ a' b' c' d' e' f',m a' b' c' d' e' f'<m a b c d e f->P a' b' c' d' e' f'->AH L (.lp cd::k) (vs a' b' c' d' e' f'++u6 ts tm) (Ms a' b' c' d' e' f'++M) Q)->AH L (.code cd :: .lp cd::k) (vs a b c d e f++u6 ts tm) (Ms a b c d e f++M) Q):AH L (.lp cd::k) tm M Q :=
 YZ (α:=α × β × γ × δ × ε × ζ) (λ x=>m x.1 x.2.1 x.2.2.1 x.2.2.2.1 x.2.2.2.2.1 x.2.2.2.2.2) (λ x=>P x.1 x.2.1 x.2.2.1 x.2.2.2.1 x.2.2.2.2.1 x.2.2.2.2.2) (λ x=>vs x.1 x.2.1 x.2.2.1 x.2.2.2.1 x.2.2.2.2.1 x.2.2.2.2.2) (λ x=>Ms x.1 x.2.1 x.2.2.1 x.2.2.2.1 x.2.2.2.2.1 x.2.2.2.2.2) ts τ (a,b,c,d,e,f) he hp λ⟨a,b,c,d,e,f⟩ h ih=>step a b c d e f h λ a' b' c' d' e' f' h1 h2=>ih (a',b',c',d',e',f') h1 h2
theorem BA {L:Lib} {Q:Tm->Mem->Prop} {c:C1} {k:List It} {tm:Tm} {M:Mem} (h:fT (mo 0 tm) λ tm=>fM (gn M) λ M=>XK L Q 500 (.code c::k) tm M):AH L (.code c::k) tm M Q:=by
 rw[ZT,N3]at h;exact rO (kM h)
end Go.Eng

namespace Go.Eng
variable {L:Lib}
def D6 (N:Nat):B8->Bool
 | .t n=>Nat.blt n N
 | .c _=>true
def cW (N:Nat):GN->Bool
 | .a8 x=>D6 N x
 | .q7 _ _=>true
 | .pick c a b=>D6 N c&&(D6 N a&&D6 N b)
 | .bin _ x y=>D6 N x&&D6 N y
 | .beq _ x y=>D6 N x&&D6 N y
 | .un _ x=>D6 N x
 | .conv _ x=>D6 N x
 | .box _ x=>D6 N x
 | .alloc _ _=>true
 | .build _ ps=>ps.all λ p=>D6 N p.2.2
 | .c4 _ _ ps=>ps.all (D6 N)
 | .a7 x _=>D6 N x
 | .gx x _ _ _=>D6 N x
 | .a4 _ _ x i=>D6 N x&&D6 N i
 | .idx _ _ _ x i=>D6 N x&&D6 N i
 | .ld _ _ x=>D6 N x
 | .st _ x v=>D6 N x&&D6 N v
 | .mk _ _ _ _ l c=>D6 N l&&D6 N c
 | .ay _ x lo hi=>D6 N x&&((lo.all (D6 N))&&(hi.all (D6 N)))
 | .ext x _=>D6 N x
 | .len x=>D6 N x
 | .mm _ xs=>xs.all (D6 N)
 | .app _ _ _ x y=>D6 N x&&D6 N y
 | .iq _ x y=>D6 N x&&D6 N y
 | .call _ xs=>xs.all (D6 N)
 | .c8 _ xs=>xs.all (D6 N)
 | .jz _ x=>D6 N x
 | .cr _ x=>D6 N x
 | .bad=>true
 | .kj x=>D6 N x
 | .bh x=>D6 N x
 | .gv _ _ _ x y=>D6 N x&&D6 N y
 | .il _ _ _ x y=>D6 N x&&D6 N y
 | .jc _ _ xs=>xs.all (D6 N)
 | .n8 x xs=>D6 N x&&xs.all (D6 N)
 | .l9 _ xs=>xs.all (D6 N)
 | .o0 _ _ xs=>xs.all (D6 N)
 | .x9 _ _ xs=>xs.all (D6 N)
 | .ke _ _ x y=>D6 N x&&D6 N y
 | .gu _ _ x v=>D6 N x&&D6 N v
 | .al _ _ _ x y=>D6 N x&&D6 N y
def aU (N:Nat) (a:AI):Bool:=(a.dst.all λ d=>Nat.blt d N)&&((a.guard.all λ g=>Nat.blt g.1 N)&&cW N a.op)
def LF (N:Nat):C1->Bool
 | .skip=>true
 | .ops l _=>l.all (aU N)
 | .dr c ts _=>LF N c&&ts.all λ t=>Nat.blt t N
 | .scope c=>LF N c
 | .seq a b=>LF N a&&LF N b
 | .cond c a b=>D6 N c&&(LF N a&&LF N b)
 | .block _ c=>LF N c
 | .loop c=>LF N c
 | .exit _=>true
 | .ret=>true
def V7 (N:Nat):It->Bool
 | .code c=>LF N c
 | .er ts _=>ts.all λ t=>Nat.blt t N
 | .blk _=>true
 | .lp c=>LF N c
structure Gh (N:Nat) (G T T':Tm):Prop where
 lo : ∀ j,j<N->c9 T' j=c9 T j
 hi : ∀ j,N<=j->c9 T' j=c9 G j
variable {N:Nat} {G:Tm}
theorem W7 {a b:Nat}:Nat.blt a b=true↔a<b:=by simp [Nat.blt];omega
theorem Gh.ev {st:St} {T':Tm} {o:BT} (h:Gh N G st.tm T') {x:B8} (hx:D6 N x=true):St.ev ⟨T',o⟩ x=st.ev x:=by
 cases x with
 | t n=>exact h.lo n (W7.1 hx)
 | c v=>rfl
theorem XU {f g:B8->AV} {xs:List B8} (h : ∀ x,D6 N x=true->f x=g x) (hx:xs.all (D6 N)=true):xs.map f=xs.map g:=by
 apply List.map_congr_left;intro x hm;exact h x (List.all_eq_true.1 hx x hm)
theorem Ta {C:Cl} {b9:List Nat} {ρ ρ':B8->AV} {own:BT} (h : ∀ x,D6 N x=true->ρ' x=ρ x) : ∀ (op:GN),cW N op=true->c7 C b9 ρ' own op=c7 C b9 ρ own op:=by
 intro op g6;cases op;case build zero ps =>
  have:(ps.map λ p=>(p.1,p.2.1,ρ' p.2.2))=ps.map λ p=>(p.1,p.2.1,ρ p.2.2):=by
   apply List.map_congr_left;intro p hm;rw[h _ (List.all_eq_true.1 g6 p hm)]
  simp only[c7,this]
 case c4 s a6 ps =>
  have:ps.mapM (λ x=>cellsOf (ρ' x))=ps.mapM (λ x=>cellsOf (ρ x)):=by
   have ki:ps.all (D6 N)=true:=g6;clear g6;induction ps with
   | nil=>rfl
   | cons p r ih =>
    simp only[List.all_cons,Bool.and_eq_true]at ki;simp only[List.mapM_cons,h _ ki.1,ih ki.2]
  simp only[c7,this]
 case mm m xs=>simp only[c7,XU h g6]
 case call f xs=>simp only[c7,XU h g6]
 case c8 f xs=>simp only[c7,XU h g6]
 case jc p f xs =>
  have:xs.mapM (λ x=>KB (ρ' x))=xs.mapM (λ x=>KB (ρ x)):=by
   have ki:xs.all (D6 N)=true:=g6;clear g6;induction xs with
   | nil=>rfl
   | cons p r ih =>
    simp only[List.all_cons,Bool.and_eq_true]at ki;simp only[List.mapM_cons,h _ ki.1,ih ki.2]
  simp only[c7,this]
 case l9 f xs=>simp only[c7,XU h g6]
 case o0 s f xs=>simp only[c7,XU h g6]
 case x9 s f xs=>simp only[c7,XU h g6]
 case n8 x xs =>
  simp only[cW,Bool.and_eq_true]at g6;simp only[c7,XU h g6.2,h _ g6.1]
 case ay a6 x lo hi =>
  simp only[cW,Bool.and_eq_true]at g6;obtain ⟨h1,h2,h3⟩:=g6;cases lo<;>cases hi<;>simp only[Option.all_some,Option.all_none]at h2 h3<;>simp only[c7,h _ h1,h _,h2,h3]
 all_goals (simp only[cW,Bool.and_eq_true]at g6;simp only[c7,h _,g6])
theorem Gh.dst {T T':Tm} (h:Gh N G T T') {d:Nat} (hd:d<N) (v:AV):Gh N G (dz T d v) (dz T' d v):=by
 constructor
 ·intro j hj
  rw[dW,dW,h.lo j hj]
 ·intro j hj
  rw[dW,h.hi j hj,if_neg (by omega)]
theorem Gh.iu {T T':Tm} {o:BT} (h:Gh N G T T') {d:Option Nat} (hd:(d.all λ d=>Nat.blt d N)=true) (v:AV):((⟨T',o⟩:St).dst d v).own=((⟨T,o⟩:St).dst d v).own/\Gh N G ((⟨T,o⟩:St).dst d v).tm ((⟨T',o⟩:St).dst d v).tm:=by
 cases d with
 | none=>exact ⟨rfl,h⟩
 | some d=>exact ⟨rfl,h.dst (W7.1 hd) v⟩
theorem AkY {C:Cl} {a:AI} (ha:aU N a=true) {T T':Tm} {o:BT} (h:Gh N G T T') {s':St} (hs:FO C a ⟨T',o⟩=some s') : ∃ s,FO C a ⟨T,o⟩=some s/\s'.own=s.own/\Gh N G s.tm s'.tm:=by
 simp only[aU,Bool.and_eq_true]at ha;obtain ⟨h1,h2,h3⟩:=ha;have hg:IL ⟨T',o⟩ a.guard=IL ⟨T,o⟩ a.guard:=by
  cases hgg:a.guard with
  | none=>rfl
  | some g =>
   rw[hgg]at h2;simp only[IL,h.lo _ (W7.1 h2)]
 have he:=Ta (C:=C) (b9:=a.b9) (own:=o) (ρ:=St.ev ⟨T,o⟩) (ρ':=St.ev ⟨T',o⟩) (λ x hx=>Gh.ev (st:=⟨T,o⟩) h hx) a.op h3;unfold FO at hs ⊢;rw[hg,he]at hs;cases tc:IL ⟨T,o⟩ a.guard with
 | none=>rw[tc]at hs;cases hs
 | some b =>
  rw[tc]at hs;cases b with
  | false =>
   simp only[Option.some.injEq]at hs ⊢;subst hs;exact ⟨_,rfl,h.iu h1 _⟩
  | true =>
   simp only at hs ⊢;cases nm:c7 C a.b9 (St.ev ⟨T,o⟩) o a.op with
   | none=>rw[nm]at hs;cases hs
   | some e =>
    rw[nm]at hs;simp only[Option.map_some,Option.some.injEq]at hs ⊢;subst hs;refine ⟨_,rfl,?_⟩;cases e with
    | val v=>exact h.iu h1 v
    | new s b v=>exact ⟨rfl,(h.iu (o:=o) h1 _).2⟩
    | oi s b v=>exact ⟨rfl,(h.iu (o:=o) h1 _).2⟩
    | af v o'=>exact ⟨rfl,(h.iu (o:=o) h1 _).2⟩
    | n7 s x=>exact ⟨rfl,(h.iu (o:=o) h1 _).2⟩
    | km s x v=>exact ⟨rfl,(h.iu (o:=o) h1 _).2⟩
theorem Hq {C:Cl} : ∀ {l:List AI},l.all (aU N)=true -> ∀ {T T':Tm} {o:BT},Gh N G T T' -> ∀ {s':St},FP C l ⟨T',o⟩=some s' -> ∃ s,FP C l ⟨T,o⟩=some s/\s'.own=s.own/\Gh N G s.tm s'.tm
 | [],_,T,T',o,h,s',hs=>by
  simp only[FP,Option.some.injEq]at hs;subst hs;exact ⟨_,rfl,rfl,h⟩
 | a::l,ha,T,T',o,h,s',hs=>by
  simp only[List.all_cons,Bool.and_eq_true]at ha;simp only[FP]at hs;cases h1:FO C a ⟨T',o⟩ with
  | none=>rw[h1]at hs;cases hs
  | some s1 =>
   rw[h1]at hs;obtain ⟨s2,e1,e2,e3⟩:=AkY ha.1 h h1;obtain ⟨T1,o1⟩:=s1;obtain ⟨T2,o2⟩:=s2;simp only at e2 e3;subst e2;obtain ⟨s3,f1,f2,f3⟩:=Hq ha.2 e3 hs;exact ⟨s3,by simp only[FP,e1,f1],f2,f3⟩
theorem cJ {id:Nat} : ∀ {k k':List It},k.all (V7 N)=true->GJ id k=some k'->k'.all (V7 N)=true
 | [],_,_,h=>by simp [GJ]at h
 | it::k,k',hk,h=>by
  simp only[List.all_cons,Bool.and_eq_true]at hk;cases it with
  | blk i =>
   simp only[GJ]at h;split at h
   ·cases h;exact hk.2
   ·exact cJ hk.2 h
  | code c=>simp only[GJ]at h;exact cJ hk.2 h
  | er a b=>simp only[GJ]at h;exact cJ hk.2 h
  | lp c=>simp only[GJ]at h;exact cJ hk.2 h
theorem LV {C:Cl} : ∀ (n:Nat) {k:List It},k.all (V7 N)=true -> ∀ {T T':Tm} {o:BT},Gh N G T T' -> ∀ {s':St},run C n k ⟨T',o⟩=some s' -> ∃ s,run C n k ⟨T,o⟩=some s/\s'.own=s.own/\Gh N G s.tm s'.tm
 | 0,k,_,T,T',o,_,s',hs=>by simp [run]at hs
 | n+1,[],_,T,T',o,h,s',hs=>by
  simp only[run,Option.some.injEq]at hs ⊢;subst hs;exact ⟨_,rfl,rfl,h⟩
 | n+1,.blk _::k,hk,T,T',o,h,s',hs=>by
  simp only[List.all_cons,Bool.and_eq_true]at hk;simp only[run]at hs ⊢;exact LV n hk.2 h hs
 | n+1,.er ts ss::k,hk,T,T',o,h,s',hs=>by
  simp only[List.all_cons,Bool.and_eq_true]at hk;simp only[run]at hs ⊢;refine LV n hk.2 ⟨λ j hj => ?_,λ j hj => ?_⟩ hs
  ·rw[aB,aB,h.lo j hj]
  ·rw[aB,h.hi j hj,if_neg]
   intro hc;have:=List.all_eq_true.1 hk.1 j (by simpa using hc)
   have:=W7.1 this
   omega
 | n+1,.lp c::k,hk,T,T',o,h,s',hs=>by
  simp only[run]at hs ⊢;have dc:=hk;simp only[List.all_cons,Bool.and_eq_true]at hk;exact LV n (by simp only[List.all_cons,Bool.and_eq_true];exact ⟨hk.1,hk.1,hk.2⟩) h hs
 | n+1,.code c::k,hk,T,T',o,h,s',hs=>by
  simp only[List.all_cons,Bool.and_eq_true]at hk;obtain ⟨hc,hk⟩:=hk;cases c with
  | skip=>simp only[run]at hs ⊢;exact LV n hk h hs
  | ops l d =>
   simp only[run]at hs ⊢;cases h1:FP C l ⟨T',o⟩ with
   | none=>rw[h1]at hs;cases hs
   | some s1 =>
    rw[h1]at hs;obtain ⟨s2,e1,e2,e3⟩:=Hq (show l.all (aU N)=true from hc) h h1;obtain ⟨T1,o1⟩:=s1;obtain ⟨T2,o2⟩:=s2;simp only at e2 e3;subst e2;rw[e1];exact LV n hk e3 hs
  | dr c ts ss =>
   simp only[run]at hs ⊢;simp only[V7,LF,Bool.and_eq_true]at hc;exact LV n (by simp only[List.all_cons,Bool.and_eq_true];exact ⟨hc.1,hc.2,hk⟩) h hs
  | scope c =>
   simp only[run]at hs ⊢;exact LV n (by simp only[List.all_cons,Bool.and_eq_true];exact ⟨hc,hk⟩) h hs
  | seq a b =>
   simp only[run]at hs ⊢;simp only[V7,LF,Bool.and_eq_true]at hc;exact LV n (by simp only[List.all_cons,Bool.and_eq_true];exact ⟨hc.1,hc.2,hk⟩) h hs
  | cond x a b =>
   simp only[V7,LF,Bool.and_eq_true]at hc;simp only[run,Gh.ev (st:=⟨T,o⟩) h hc.1]at hs ⊢;cases hx:St.ev ⟨T,o⟩ x<;>rw[hx]at hs<;>try (simp at hs;done)
   rename_i q;cases q
   ·exact LV n (by simp only[List.all_cons,Bool.and_eq_true];exact ⟨hc.2.2,hk⟩) h hs
   ·exact LV n (by simp only[List.all_cons,Bool.and_eq_true];exact ⟨hc.2.1,hk⟩) h hs
  | block id c =>
   simp only[run]at hs ⊢;exact LV n (by simp only[List.all_cons,Bool.and_eq_true];exact ⟨hc,rfl,hk⟩) h hs
  | loop c =>
   simp only[run]at hs ⊢;exact LV n (by simp only[List.all_cons,Bool.and_eq_true];exact ⟨hc,hc,hk⟩) h hs
  | exit id =>
   simp only[run]at hs ⊢;cases he:GJ id k with
   | none=>rw[he]at hs;cases hs
   | some k' =>
    rw[he]at hs;exact LV n (cJ hk he) h hs
  | ret =>
   simp only[run,Option.some.injEq]at hs ⊢;subst hs;exact ⟨_,rfl,rfl,h⟩
def JH (N:Nat):Tm->Tm
 | []=>[]
 | (i,v)::r=>(N+i,v)::JH N r
def gh (N:Nat):Tm->Tm
 | []=>[]
 | (i,v)::r=>bif Nat.ble N i then (Nat.sub i N,v)::gh N r else gh N r
theorem qX (N j:Nat) : ∀ T:Tm,c9 (JH N T) (N+j)=c9 T j
 | []=>rfl
 | (i,v)::r=>by
  have ih:=qX N j r;simp only[JH,c9,ih];by_cases h:j=i
  ·simp [h]
  ·rw[if_neg h,if_neg (by omega)]
theorem qY {N j:Nat} (hj:j<N) : ∀ T:Tm,c9 (JH N T) j = .any
 | []=>rfl
 | (i,v)::r=>by
  simp only[JH,c9,qY hj r];rw[if_neg (by omega)]
theorem qR (N j:Nat) : ∀ T:Tm,c9 (gh N T) j=c9 T (N+j)
 | []=>rfl
 | (i,v)::r=>by
  have ih:=qR N j r;simp only[gh];cases h:Nat.ble N i
  ·have h1 : ¬ N<=i:=λ e=>by rw[Nat.ble_eq_true_of_le e]at h;cases h
   simp only[cond,c9,ih];rw[if_neg (by omega)]
  ·have h1:=Nat.le_of_ble_eq_true h
   simp only[cond,c9,ih];by_cases h2:j=i-N
   ·rw[if_pos (show j=Nat.sub i N from h2),if_pos (by omega)]
   ·rw[if_neg (show ¬ j=Nat.sub i N from h2),if_neg (by omega)]
def PH (f:AV->AV):Tm->Tm
 | []=>[]
 | (i,v)::r=>(i,f v)::PH f r
theorem NH {f:AV->AV} (hf:f .any = .any) (j:Nat) : ∀ T:Tm,c9 (PH f T) j=f (c9 T j)
 | []=>hf.symm
 | (i,v)::r=>by
  simp only[PH,c9,NH hf j r];by_cases h:j=i<;>simp [h]
theorem nT (f:AV->AV) : ∀ (i:Nat) (vs:List AV),ET i (vs.map f)=PH f (ET i vs)
 | _,[]=>rfl
 | i,v::r=>by simp only[List.map_cons,ET,PH,nT f (i+1) r]
theorem dU (j:Nat) (b:Tm) : ∀ a:Tm,((a.any λ p=>p.1 == j)=true/\c9 (a++b) j=c9 a j)\/((a.any λ p=>p.1 == j)=false/\c9 (a++b) j=c9 b j)
 | []=>Or.inr ⟨rfl,rfl⟩
 | (i,v)::r=>by
  by_cases h:j=i
  ·subst h
   exact Or.inl (by simp [c9])
  ·have h' : ¬ i=j:=λ e=>h e.symm
   rcases dU j b r with ⟨h1,h2⟩|⟨h1,h2⟩
   ·exact Or.inl ⟨by rw[List.any_cons,h1,Bool.or_true],by simp only[List.cons_append,c9,if_neg h,h2]⟩
   ·exact Or.inr ⟨by rw[List.any_cons,h1,Bool.or_false];simpa using h',by simp only[List.cons_append,c9,if_neg h,h2]⟩
theorem nS (j:Nat) : ∀ (i:Nat) (vs:List AV),((ET i vs).any λ p=>p.1 == j)=true->j<i+vs.length
 | _,[],h=>by simp [ET]at h
 | i,v::r,h=>by
  simp only[ET,List.any_cons,Bool.or_eq_true,beq_iff_eq]at h;rcases h with h|h
  ·simp;omega
  ·have:=nS j (i+1) r h
   simp;omega
theorem qW (j:Nat) : ∀ (i:Nat) (vs:List AV),((ET i vs).any λ p=>p.1 == j)=false->c9 (ET i vs) j = .any
 | _,[],_=>rfl
 | i,v::r,h=>by
  simp only[ET,List.any_cons,Bool.or_eq_false_iff,beq_eq_false_iff_ne]at h;simp only[ET,c9];rw[if_neg λ e=>h.1 e.symm,qW j (i+1) r h.2]
theorem OL (σ:II):C9 σ .any = .any:=rfl
def WF (tm:Tm):List ML->Option (List AV)
 | []=>some []
 | .tmp t::r=>match MH (tg tm t),WF tm r with
  | some v,some vs=>some (v::vs)
  | _,_=>none
 | .cell _ _ _::_=>none
def dG (N:Nat):List ML->Bool
 | []=>true
 | .tmp t::r=>Nat.blt t N&&dG N r
 | .cell _ _ _::_=>false
def sN (N:Nat) (fn:AFn) (tm:Tm) (K:AV->Mem->Prop) (v9:Tm) (M':Mem):Prop:=gh N v9=tm /\ ∃ rs,WF v9 fn.res=some rs/\K (K8 rs) M'
theorem Akp {σ:II} {v u:AV} (h:MH v=some u):u=v/\C9 σ v=DP σ v/\MH (C9 σ v)=some (C9 σ v):=by
 cases v<;>simp [MH]at h<;>subst h<;>exact ⟨rfl,rfl,rfl⟩
theorem pI {σ:II} {v9:Tm} {M:Mem} {s s':St} (hr:RX σ v9 M s') (ib : ∀ j,j<N->c9 s'.tm j=c9 s.tm j) : ∀ {res:List ML} {rs:List AV},dG N res=true->WF v9 res=some rs->res.mapM (H2 s)=some (rs.map (DP σ)) /\ ∀ v∈rs,C9 σ v=DP σ v
 | [],rs,_,h=>by
  simp only[WF,Option.some.injEq]at h;subst h;exact ⟨rfl,by simp⟩
 | .cell _ _ _::_,_,_,h=>by simp [WF]at h
 | .tmp t::r,rs,hl,h=>by
  simp only[dG,Bool.and_eq_true]at hl;simp only[WF]at h;cases h1:MH (tg v9 t) with
  | none=>rw[h1]at h;simp at h
  | some v =>
   cases h2:WF v9 r with
   | none=>rw[h1,h2]at h;simp at h
   | some vs =>
    rw[h1,h2]at h;simp only[Option.some.injEq]at h;subst h;obtain ⟨i1,i2⟩:=pI hr ib hl.2 h2;obtain ⟨rfl,j2,j3⟩:=Akp (σ:=σ) h1;have:c9 s.tm t=C9 σ (tg v9 t):=by
     rcases hr.tm t with e|e
     ·rw[e]at h1;cases h1
     ·rw[<-ib t (W7.1 hl.1),e]
    refine ⟨?_,?_⟩
    ·rw[j2]at j3 this
     simp only[List.mapM_cons,H2,this,j3,i1,List.map_cons];rfl
    ·intro v hv
     simp only[List.mem_cons]at hv;rcases hv with rfl|hv
     ·exact j2
     ·exact i2 v hv
theorem Fw {σ:II} {rs:List AV} (h : ∀ v∈rs,C9 σ v=DP σ v):K8 (rs.map (DP σ))=C9 σ (K8 rs):=by
 match rs,h with
 | [],_=>rfl
 | [v],h=>exact (h v (by simp)).symm
 | _::_::_,_=>rfl
theorem HI {f:Nat} {fn:AFn} {vs:List AV} {tm:Tm} {M:Mem} {K:AV->Mem->Prop} (N:Nat) (hL:L f=some fn) (hp:Nat.beq vs.length fn.v8=true) (hN:(Nat.ble fn.v8 N&&(LF N fn.body&&dG N fn.res))=true)
  (h:AH L [.code fn.body] (ET 0 vs++JH N tm) M (sN N fn tm K)):CW L f vs tm M K:=by
 intro σ own hs;simp only[Bool.and_eq_true]at hN;obtain ⟨n1,n2,n3⟩:=hN;have n1:=Nat.le_of_ble_eq_true n1;have hp:vs.length=fn.v8:=Nat.eq_of_beq_eq_true hp;have Bc:RX σ (ET 0 vs++JH N tm) M ⟨PH (C9 σ) (ET 0 vs++JH N tm),own⟩:=⟨λ j=>Or.inr (by rw[NG];exact NH (OL σ) j _),hs⟩;obtain ⟨n,c,s',hr,σ',v9,M',hR,hg,rs,hrs,hk⟩:=h σ _ Bc;have Ae:Gh N (PH (C9 σ) (JH N tm)) (ET 0 (vs.map (C9 σ))) (PH (C9 σ) (ET 0 vs++JH N tm)):=by
  constructor
  ·intro j hj
   rw[nT,NH (OL σ),NH (OL σ)];rcases dU j (JH N tm) (ET 0 vs) with ⟨_,e⟩|⟨hn,e⟩
   ·rw[e]
   ·rw[e,qY hj,qW j 0 vs hn]
  ·intro j hj
   rw[NH (OL σ),NH (OL σ)];rcases dU j (JH N tm) (ET 0 vs) with ⟨hn,e⟩|⟨_,e⟩
   ·have:=nS j 0 vs hn
    omega
   ·rw[e]
 obtain ⟨s,r1,r2,r3⟩:=LV n (by simp [V7,n2]) Ae hr;obtain ⟨i1,i2⟩:=pI (s:=s) hR r3.lo n3 hrs;refine ⟨K8 rs,s.own,σ',M',JL.intro hL (by simpa using hp) ⟨n,c,s,r1,?_,rfl⟩,?_,?_,hk⟩
 ·rw[i1,Option.map_some,Fw i2]
 ·rw[<-r2];exact hR.sat
 ·intro j
  have e1:tg tm j=tg v9 (N+j):=by rw[NG,NG,<-hg,qR]
  rcases hR.tm (N+j) with e|e
  ·rw[e1,e];rfl
  ·rw[e1,<-e,r3.hi (N+j) (by omega),NH (OL σ),qX,<-NG,e1]
theorem ZA {α:Type} {enc:α->List AV} {l:List α} {i:Nat} {vs:List AV} {K:List (List AV)->Prop} (n:Nat) (e:α) (hn:i=n) (he:vs=enc e) (hz : ∀ x,(enc x).length=vs.length) (hi:n<l.length) (h:K ((l.set n e).map enc)):CU (l.map enc) i 0 vs K:=by
 subst hn;exact La e he hz hi h
theorem JK {x:Int} {len:Nat} {K:Nat->Nat->Prop} (h:Nat) (hx:x=h) (hl:h<=len) (hk:K 0 h):DR none (some x) len K:=⟨0,h,rfl,⟨by omega,by omega,by omega⟩,by omega,hk⟩
theorem Nh {x:Int} {len:Nat} {K:Nat->Nat->Prop} (a:Nat) (hx:x=a) (hl:a<=len) (hk:K a len):DR (some x) none len K:=⟨a,len,⟨by omega,by omega⟩,rfl,by omega,hk⟩
end Go.Eng

namespace Go.Eng
section
variable {K:AV->Prop} {a b:Nat} {k':IntKind}
theorem wrap_u32 (n:Nat):IntKind.u32.wrap (n:Int)=((n%4294967296:Nat):Int):=by rw[IntKind.wrap_u32];omega
theorem Alz (n:Nat):IntKind.u64.wrap (n:Int)=((n%18446744073709551616:Nat):Int):=by
 simp [IntKind.wrap,IntKind.bits,IntKind.signed]
theorem I6 (h:a+b<=18446744073709551615) (hk:K (.int .u64 ((a+b:Nat):Int))):BD .add .u64 (a:Int) .u64 (b:Int) K :=
 ⟨_,by simp only[F4,if_true];rw[IntWalk.u64_in _ (by omega)],by simpa using hk⟩
theorem L2 (h:b<=a) (h2:a<=18446744073709551615) (hk:K (.int .u64 ((a-b:Nat):Int))):BD .sub .u64 (a:Int) .u64 (b:Int) K :=
 ⟨_,by simp only[F4,if_true];rw[IntWalk.u64_in _ (by omega)],by rw[show (a:Int)-b=((a-b:Nat):Int) by omega];exact hk⟩
theorem eI (h:b<=18446744073709551616) (hk:K (.int .u64 ((HC a b:Nat):Int))):BD .sub .u64 (a:Int) .u64 (b:Int) K :=
 eD (v := .int .u64 (IntKind.u64.wrap ((a:Int)-b))) (by simp only[F4,if_true]) (by
  have e:IntKind.u64.wrap ((a:Int)-b)=((HC a b:Nat):Int):=by
   rw[YU];simp only[IntKind.wrap,IntKind.bits,IntKind.signed];simp;omega
  rw[e];exact hk)
theorem UF (h:a*b<=18446744073709551615) (hk:K (.int .u64 ((a*b:Nat):Int))):BD .mul .u64 (a:Int) .u64 (b:Int) K :=
 ⟨_,by simp only[F4,if_true];rw[<-Int.natCast_mul,IntWalk.u64_in _ (by omega)],hk⟩
theorem eG (h:0<b) (h2:a<=18446744073709551615) (hk:K (.int .u64 ((a/b:Nat):Int))):BD .quo .u64 (a:Int) .u64 (b:Int) K:=by
 refine ⟨_,by simp only[F4];rw[if_pos ⟨trivial,by omega⟩],?_⟩;rw[IntWalk.u64_quo _ _ ⟨by omega,by omega,by omega⟩,<-Int.natCast_ediv];exact hk
theorem aQ (h:0<b) (hk:K (.int .u64 ((a%b:Nat):Int))):BD .rem .u64 (a:Int) .u64 (b:Int) K:=by
 refine ⟨_,by simp only[F4];rw[if_pos ⟨trivial,by omega⟩],?_⟩;rw[IntWalk.rem_in _ _ (by omega),<-Int.natCast_emod];exact hk
theorem AkJ {k:IntKind} {n:Nat} (hn:n<=k.bits):F4 .shl k (a:Int) k' (n:Int)=some (.int k (k.wrap ((a*2^n:Nat):Int))):=by
 simp only[F4];rw[if_neg (by omega),Int.toNat_natCast,Nat.min_eq_left hn];simp
theorem AkL {k:IntKind} {n:Nat} (hn:n<=k.bits):F4 .shr k (a:Int) k' (n:Int)=some (.int k ((a/2^n:Nat):Int)):=by
 simp only[F4];rw[if_neg (by omega),Int.toNat_natCast,Nat.min_eq_left hn,Int.fdiv_eq_ediv_of_nonneg _ (Int.le_of_lt (Int.pow_pos (by omega)))];simp
theorem kI {k:IntKind} {n:Nat} (hn:n<=k.bits) (hk:K (.int k (k.wrap ((a*2^n:Nat):Int)))):BD .shl k (a:Int) k' (n:Int) K:=⟨_,AkJ hn,hk⟩
theorem UH {k:IntKind} {n:Nat} (hn:n<=k.bits) (hk:K (.int k ((a/2^n:Nat):Int))):BD .shr k (a:Int) k' (n:Int) K:=⟨_,AkL hn,hk⟩
theorem TN (h:a<=4294967295) (hk:K (.int .u64 ((a*4294967296:Nat):Int))):BD .shl .u64 (a:Int) k' 32 K:=by
 refine kI (n:=32) (by decide) ?_;rw[Alz,show a*2^32%18446744073709551616=a*4294967296 by omega];exact hk
theorem IB (hk:K (.int .u64 ((a/4294967296:Nat):Int))):BD .shr .u64 (a:Int) k' 32 K:=UH (n:=32) (by decide) hk
theorem eH (hk:K (.int .u64 ((a/9223372036854775808:Nat):Int))):BD .shr .u64 (a:Int) k' 63 K:=UH (n:=63) (by decide) hk
theorem Lt (hk:K (.int .u64 ((a/4:Nat):Int))):BD .shr .u64 (a:Int) k' 2 K:=UH (n:=2) (by decide) hk
theorem Ls (hk:K (.int .u32 ((a/65536:Nat):Int))):BD .shr .u32 (a:Int) k' 16 K:=UH (n:=16) (by decide) hk
theorem Lu (hk:K (.int .u32 ((a/256:Nat):Int))):BD .shr .u32 (a:Int) k' 8 K:=UH (n:=8) (by decide) hk
theorem Lr (hk:K (.int .u32 ((a/2:Nat):Int))):BD .shr .u32 (a:Int) k' 1 K:=UH (n:=1) (by decide) hk
theorem oQ (w n:Nat):(BitVec.ofInt w (n:Int)).toNat=n%2^w:=by rw[BitVec.toNat_ofInt];omega
theorem Zj {n x y:Nat} (hx:x%2^n=0) (hy:y<2^n):x ||| y=x+y:=by
 have e:x=2^n*(x/2^n):=by have:=Nat.mod_add_div x (2^n);omega
 rw[e,<-Nat.two_pow_add_eq_or_of_lt hy]
theorem kH {k:IntKind} (n:Nat) (hx:a%2^n=0) (hy:b<2^n) (h:a+b<2^k.bits) (hw:k.wrap ((a+b:Nat):Int)=((a+b:Nat):Int)) (hk:K (.int k ((a+b:Nat):Int))):BD .or k (a:Int) k (b:Int) K:=by
 refine eD (v := .int k (k.wrap (BitVec.ofInt k.bits (a:Int) ||| BitVec.ofInt k.bits (b:Int)).toNat)) (by simp only[F4,if_true]) ?_;rw[BitVec.toNat_or,oQ,oQ,Nat.mod_eq_of_lt (by omega),Nat.mod_eq_of_lt (by omega),Zj hx hy,hw];exact hk
theorem UG (h:a%4294967296=0/\b<4294967296/\a+b<=18446744073709551615) (hk:K (.int .u64 ((a+b:Nat):Int))):BD .or .u64 (a:Int) .u64 (b:Int) K :=
 kH 32 h.1 h.2.1 (show a+b<18446744073709551616 by omega) (IntWalk.u64_in _ (by omega)) hk
theorem sJ (h:a<=18446744073709551615) (hk:K (.int .u64 ((a%4294967296:Nat):Int))):BD .and .u64 (a:Int) .u64 4294967295 K:=by
 refine eD (v := .int .u64 (IntKind.u64.wrap (BitVec.ofInt IntKind.u64.bits (a:Int) &&& BitVec.ofInt IntKind.u64.bits 4294967295).toNat)) (by simp only[F4,if_true]) ?_;rw[BitVec.toNat_and,oQ,show (BitVec.ofInt IntKind.u64.bits 4294967295).toNat=2^32-1 by decide,Nat.and_two_pow_sub_one_eq_mod,show a%2^IntKind.u64.bits=a from Nat.mod_eq_of_lt (show a<18446744073709551616 by omega),IntWalk.u64_in _ (by omega)];exact hk
theorem sI (hk:K (.int .u32 (((a+b)%4294967296:Nat):Int))):BD .add .u32 (a:Int) .u32 (b:Int) K :=
 eD (v := .int .u32 (IntKind.u32.wrap ((a:Int)+b))) (by simp only[F4,if_true]) (by rw[<-Int.natCast_add,wrap_u32];exact hk)
end
section
variable {K:Int->Prop} {n:Nat}
theorem sB (h:n<=18446744073709551615) (hk:K (n:Int)):CF .u64 (n:Int) K:=aH (IntWalk.u64_in _ (by omega)) hk
theorem G3 (h:n<=4294967295) (hk:K (n:Int)):CF .u32 (n:Int) K:=aH (IntWalk.u32_in _ (by omega)) hk
theorem IR (hk:K ((n%4294967296:Nat):Int)):CF .u32 (n:Int) K:=by unfold CF;rw[wrap_u32];exact hk
theorem Ll (h:n<=255) (hk:K (n:Int)):CF .u8 (n:Int) K:=aH (IntWalk.u8_in _ (by omega)) hk
end
theorem eV {tb:List Nat} {n v:Nat} {K:Nat->Prop} (hv:tb[n]? = some v) (hk:K v):W3 tb (n:Int) K:=⟨by omega,v,by rw[Int.toNat_natCast];exact hv,hk⟩
abbrev BZ (n:Nat):List AV:=[.int .u32 (n:Int)]
theorem E0 (l:List Nat):IO (l.map BZ):=bF (λ_=>by simp [FG,CS]) l
section
variable {l:List Nat} {K:List AV->Prop}
theorem eK {n:Nat} (hD:CP l) (hn:n<l.length) (h : ∀ e,l[n]? = some e->e<4294967296->K (BZ e)):CI (l.map BZ) (n:Int) 1 K :=
 Mc hn (λ_=>rfl) λ e he=>h e he (hD.at he)
theorem VU {a:Int} (hD:CP l) (hn:0<=a/\a<l.length) (h : ∀ e,l[a.toNat]? = some e->e<4294967296->K (BZ e)):CI (l.map BZ) a 1 K :=
 kK hn (λ_=>rfl) λ e he=>h e he (hD.at he)
theorem sH {i:Nat} (hD:CP l) (hi:i<l.length) (h : ∀ e,l[i]? = some e->e<4294967296->K (BZ e)):CY (l.map BZ) (0+((i:Int)).toNat) 0 1 K :=
 HX (f:=BZ) hi (λ_=>rfl) λ e he=>h e he (hD.at he)
theorem WY {i:Int} (hD:CP l) (hi:0<=i/\i<l.length) (h : ∀ e,l[i.toNat]? = some e->e<4294967296->K (BZ e)):CY (l.map BZ) (0+i.toNat) 0 1 K :=
 aP (f:=BZ) hi (λ_=>rfl) λ e he=>h e he (hD.at he)
theorem H9 {i v:Nat} {KK:List (List AV)->Prop} (hi:i<l.length) (h:KK ((l.set i v).map BZ)):CU (l.map BZ) (0+((i:Int)).toNat) 0 [.int .u32 (v:Int)] KK:=G8 (enc:=BZ) v rfl (λ_=>rfl) hi h
theorem eT {i v:Nat} {KK:List (List AV)->Prop} (n:Nat) (hn:i=n) (hi:n<l.length) (h:KK ((l.set n v).map BZ)):CU (l.map BZ) i 0 [.int .u32 (v:Int)] KK:=ZA (enc:=BZ) n v hn rfl (λ_=>rfl) hi h
end
end Go.Eng
namespace Go.Eng
variable {L:Lib}
theorem Ev.xE {f:Nat} {fn:AFn} {vs:List AV} {P:AV->Prop} (hL:L f=some fn) (hp:Nat.beq vs.length fn.v8=true) (hd:NX vs=true) (h:AH L [.code fn.body] (ET 0 vs) [] (λ tm M => ∃ r,VV fn r tm M/\P r)) (hs:fn.jf=false:=by rfl) : ∃ r,Ev L f vs r/\P r:=by
 obtain ⟨n,c,e9,hr,σ,tm,M,hR,r,hq,hP⟩:=h (λ_ _=>(0,0)) ⟨ET 0 vs,BT.emp⟩ ⟨λ j=>Or.inr (by rw[NG];exact bM hd j),⟨(λ_ _ _ e=>by cases e),(λ_ _ _ e=>by simp [b7,c5]at e),(λ_ _ _ e=>by simp [b7,c5]at e),(λ_ _ _ _ _ _ e=>by simp [b7,c5]at e),(λ_ _ _ e=>by simp [b7,c5]at e)⟩⟩;exact ⟨r,Ev.fwd hL (DI.1 hp) ⟨n,c,e9,hr,sP hR hq⟩ hs,hP⟩
def Z2:GN->Bool
 | .q7 .. | .box .. | .alloc .. | .c4 .. | .st .. | .mk .. | .app .. | .iq .. | .c8 .. | .n8 .. | .gu .. | .o0 .. | .al .. | .gv .. | .il .. | .x9 .. => false
 | _=>true
def LG:C1->Bool
 | .skip=>true
 | .ops l _=>l.all λ a=>Z2 a.op
 | .dr c _ ss=>LG c&&ss.isEmpty
 | .scope c=>LG c
 | .seq a b=>LG a&&LG b
 | .cond _ a b=>LG a&&LG b
 | .block _ c=>LG c
 | .loop c=>LG c
 | .exit _=>true
 | .ret=>true
def U3:It->Bool
 | .code c=>LG c
 | .er _ ss=>ss.isEmpty
 | .blk _=>true
 | .lp c=>LG c
theorem Td {C:Cl} {b9:List Nat} {ρ:B8->AV} {own:BT} {op:GN} {E:ED} (ho:Z2 op=true) (h:c7 C b9 ρ own op=some E) : ∃ v,E = .val v:=by
 cases op<;>first|(simp [Z2]at ho;done)|skip
 all_goals simp only[c7]at h
 all_goals
  first
   | (simp only[Option.some.injEq]at h;exact ⟨_,h.symm⟩)
   | (simp only[Option.map_eq_some_iff]at h;obtain ⟨_,_,rfl⟩:=h;exact ⟨_,rfl⟩)
   | skip
 all_goals (repeat' split at h)
 all_goals
  first
   | (cases h;done)
   | (simp only[Option.some.injEq]at h;exact ⟨_,h.symm⟩)
   | (simp only[Option.map_eq_some_iff]at h;obtain ⟨_,_,rfl⟩:=h;exact ⟨_,rfl⟩)
theorem Ak0 {C:Cl} {a:AI} (ho:Z2 a.op=true) {s s':St} (h:FO C a s=some s'):s'.own=s.own:=by
 unfold FO at h;split at h
 ·cases he:c7 C a.b9 s.ev s.own a.op with
  | none=>rw[he]at h;cases h
  | some E =>
   rw[he]at h;obtain ⟨v,rfl⟩:=Td ho he;simp only[Option.map_some,Option.some.injEq]at h;subst h;simp only[St.app];cases a.dst<;>rfl
 ·simp only[Option.some.injEq]at h
  subst h;cases a.dst<;>rfl
 ·cases h
theorem Hr {C:Cl} : ∀ {l:List AI},(l.all λ a=>Z2 a.op)=true -> ∀ {s s':St},FP C l s=some s'->s'.own=s.own
 | [],_,s,s',h=>by simp only[FP,Option.some.injEq]at h;rw[h]
 | a::l,ho,s,s',h=>by
  simp only[List.all_cons,Bool.and_eq_true]at ho;simp only[FP]at h;cases h1:FO C a s with
  | none=>rw[h1]at h;cases h
  | some s1 =>
   rw[h1]at h;rw[Hr ho.2 h,Ak0 ho.1 h1]
theorem cK {id:Nat} : ∀ {k k':List It},k.all U3=true->GJ id k=some k'->k'.all U3=true
 | [],_,_,h=>by simp [GJ]at h
 | it::k,k',hk,h=>by
  simp only[List.all_cons,Bool.and_eq_true]at hk;cases it with
  | blk i =>
   simp only[GJ]at h;split at h
   ·cases h;exact hk.2
   ·exact cK hk.2 h
  | code c=>simp only[GJ]at h;exact cK hk.2 h
  | er a b=>simp only[GJ]at h;exact cK hk.2 h
  | lp c=>simp only[GJ]at h;exact cK hk.2 h
theorem LW {C:Cl} : ∀ (n:Nat) {k:List It},k.all U3=true -> ∀ {s s':St},run C n k s=some s'->s'.own=s.own
 | 0,k,_,s,s',h=>by simp [run]at h
 | n+1,[],_,s,s',h=>by
  simp only[run,Option.some.injEq]at h;rw[h]
 | n+1,it::k,hk,s,s',h=>by
  have dc:=hk;simp only[List.all_cons,Bool.and_eq_true]at hk;obtain ⟨hi,hk⟩:=hk;cases it with
  | blk _=>simp only[run]at h;exact LW n hk h
  | er ts ss =>
   have:ss=[]:=by simpa [U3] using hi
   subst this;simp only[run]at h;rw[LW n hk h];rfl
  | lp c=>simp only[run]at h;exact LW n (by simp only[List.all_cons,Bool.and_eq_true];exact ⟨hi,hi,hk⟩) h
  | code c =>
   cases c with
   | skip=>simp only[run]at h;exact LW n hk h
   | ops l d =>
    simp only[run]at h;cases h1:FP C l s with
    | none=>rw[h1]at h;cases h
    | some s1 =>
     rw[h1]at h;rw[LW n hk h,Hr (show (l.all λ a=>Z2 a.op)=true from hi) h1]
   | dr c ts ss =>
    simp only[run]at h;simp only[U3,LG,Bool.and_eq_true]at hi;exact LW n (by simp only[List.all_cons,Bool.and_eq_true];exact ⟨hi.1,hi.2,hk⟩) h
   | scope c=>simp only[run]at h;exact LW n (by simp only[List.all_cons,Bool.and_eq_true];exact ⟨hi,hk⟩) h
   | seq a b =>
    simp only[run]at h;simp only[U3,LG,Bool.and_eq_true]at hi;exact LW n (by simp only[List.all_cons,Bool.and_eq_true];exact ⟨hi.1,hi.2,hk⟩) h
   | cond x a b =>
    simp only[U3,LG,Bool.and_eq_true]at hi;simp only[run]at h;split at h
    ·exact LW n (by simp only[List.all_cons,Bool.and_eq_true];exact ⟨hi.1,hk⟩) h
    ·exact LW n (by simp only[List.all_cons,Bool.and_eq_true];exact ⟨hi.2,hk⟩) h
    ·cases h
   | block id c=>simp only[run]at h;exact LW n (by simp only[List.all_cons,Bool.and_eq_true];exact ⟨hi,rfl,hk⟩) h
   | loop c=>simp only[run]at h;exact LW n (by simp only[List.all_cons,Bool.and_eq_true];exact ⟨hi,hi,hk⟩) h
   | exit id =>
    simp only[run]at h;split at h
    ·rename_i k' he
     exact LW n (cK hk he) h
    ·cases h
   | ret =>
    simp only[run,Option.some.injEq]at h;rw[h]
def Me (fn:AFn) (r:AV) (tm:Tm) (_M:Mem):Prop := ∃ rs,WF tm fn.res=some rs/\K8 rs=r
def gI:AV->Bool
 | .tup vs=>NX vs
 | v=>V0 v
theorem vK {σ:II} {v:AV} (h:gI v=true):C9 σ v=v:=by
 cases v with
 | tup vs =>
  simp only[C9];congr 1;simp only[gI]at h;induction vs with
  | nil=>rfl
  | cons v r ih =>
   simp only[NX]at h;cases hv:V0 v<;>simp only[hv,cond_true,cond_false]at h
   ·cases h
   ·rw[List.map_cons,ih h]
    congr 1;cases v<;>first|rfl|(simp [V0,kn]at hv;done)|skip
    rename_i cs;exact gH (σ:=σ) (v := .agg cs) hv
 | _=>exact gH (σ:=σ) h
def aS (L:Lib) (f:Nat) (vs:List AV) (r:AV):Prop:=gI r=true/\(∀ σ:II,vs.map (C9 σ)=vs) /\ ∀ own:BT,JL L f vs own r own
theorem vI {σ:II} : ∀ {vs:List AV},NX vs=true->vs.map (C9 σ)=vs
 | [],_=>rfl
 | v::r,h=>by
  simp only[NX]at h;cases hv:V0 v<;>simp only[hv,cond_true,cond_false]at h
  ·cases h
  ·rw[List.map_cons,gH hv,vI h]
theorem Ky {f:Nat} {fn:AFn} {vs:List AV} {r:AV} (hL:L f=some fn) (hp:Nat.beq vs.length fn.v8=true) (hd:NX vs=true) (wc:LG fn.body=true) (l6:dG 100000 fn.res=true) (hr:gI r=true) (h:AH L [.code fn.body] (ET 0 vs) [] (Me fn r)):aS L f vs r:=by
 refine ⟨hr,λ σ=>vI hd,λ own => ?_⟩;obtain ⟨n,c,e9,m7,σ,tm,M,hR,rs,hrs,he⟩:=h (λ_ _=>(0,0)) ⟨ET 0 vs,own⟩ ⟨λ j=>Or.inr (by rw[NG];exact bM hd j),⟨(λ_ _ _ e=>by cases e),(λ_ _ _ e=>by simp [b7,c5]at e),(λ_ _ _ e=>by simp [b7,c5]at e),(λ_ _ _ _ _ _ e=>by simp [b7,c5]at e),(λ_ _ _ e=>by simp [b7,c5]at e)⟩⟩;have ho:=LW n (by simp [U3,wc]) m7;obtain ⟨i1,i2⟩:=pI (N:=100000) (s:=e9) hR (λ_ _=>rfl) l6 hrs;refine JL.intro hL (DI.1 hp) ⟨n,c,e9,m7,?_,ho⟩;rw[i1,Option.map_some,Fw i2,he,vK hr]
theorem NP {f:Nat} {vs:List AV} {r:AV} {tm:Tm} {M:Mem} {K:AV->Mem->Prop} (h:aS L f vs r) (hk:K r M):CW L f vs tm M K:=by
 intro σ own hs;refine ⟨r,own,σ,M,?_,hs,λ_=>rfl,hk⟩;rw[h.2.1 σ,vK h.1];exact h.2.2 own
end Go.Eng

namespace Go.Eng
theorem Hc {A w C:List Nat} {i n:Nat} (hi:i=A.length+n) (hn:n<w.length):(A++w++C)[i]? = w[n]? := by
 subst hi;rw[List.append_assoc,List.getElem?_append_right (by omega),Nat.add_sub_cancel_left,List.getElem?_append_left hn]
theorem Alu {A w C:List Nat} {i n v:Nat} (hi:i=A.length+n) (hn:n<w.length):(A++w++C).set i v=A++w.set n v++C:=by
 subst hi;rw[List.append_assoc,List.set_append_right _ _ (by omega),Nat.add_sub_cancel_left,List.set_append_left _ _ hn,List.append_assoc]
theorem TP {A w C:List Nat} {i v:Nat} {KK:List (List AV)->Prop} (n:Nat) (hi:i=A.length+n) (hn:n<w.length) (h:KK ((A++w.set n v++C).map BZ)):CU ((A++w++C).map BZ) i 0 [.int .u32 (v:Int)] KK:=by
 have hl:i<(A++w++C).length:=by simp;omega
 refine ZA (enc:=BZ) i v rfl rfl (λ_=>rfl) hl ?_;rw[Alu hi hn];exact h
theorem AjT {W X Vi p q u d c b pr t:Nat} (h:W+q*Vi=X+p*(c+b)) (kg:pr=q*d+c) (ht:t=HC (HC u (pr%4294967296)) b) (hu:u<4294967296) (hb:b<=1) :
  W+p*(t%4294967296)+q*(Vi+p*d)=X+p*u+p*4294967296*(pr/4294967296+t/9223372036854775808):=by
 obtain ⟨h1,_⟩:=jQ hu (show pr%4294967296<4294967296 by omega) hb;rw[<-ht]at h1;have h2:=Nat.mod_add_div pr 4294967296;generalize t%4294967296=w at *;generalize t/9223372036854775808=b' at *;generalize pr%4294967296=pl at *;generalize pr/4294967296=ph at *;have e1:p*(w+pl+b)=p*(u+4294967296*b'):=by rw[h1]
 have e2:p*(pl+4294967296*ph)=p*(q*d+c):=by rw[h2,kg]
 grind
theorem Cq {q d c pr:Nat} (hq:q<4294967296) (hd:d<4294967296) (hc:c<4294967296) (kg:pr=q*d+c):pr/4294967296<4294967296/\pr<=18446744073709551615/\q*d<=18446744065119617025:=by
 have:=Z0 hq hd
 omega
theorem AjR {W X V p q u c b t:Nat} (h:W+q*V=X+p*(c+b)) (ht:t=HC (HC u c) b) (hu:u<4294967296) (hc:c<4294967296) (hb:b<=1) :
  W+p*(t%4294967296)+q*V=X+p*u+p*4294967296*(t/9223372036854775808):=by
 obtain ⟨h1,_⟩:=jQ hu hc hb;rw[<-ht]at h1;generalize t%4294967296=w at *;generalize t/9223372036854775808=b' at *;have e1:p*(w+c+b)=p*(u+4294967296*b'):=by rw[h1]
 grind
theorem AjU {W X Vi p q u d c b pr w take have' y9:Nat} (h:W+q*Vi=X+p*(c+b)) (kg:pr=c+q*d) (h1:take=pr%4294967296+b) (h2:(have'=u/\y9=0/\take<=u)\/(have'=u+4294967296/\y9=1/\u<take)) (h3:w+take=have') :
  W+p*w+q*(Vi+p*d)=X+p*u+p*4294967296*(pr/4294967296+y9):=by
 have h4:=Nat.mod_add_div pr 4294967296;have h5:w+pr%4294967296+b=u+4294967296*y9:=by omega
 generalize pr%4294967296=pl at *;generalize pr/4294967296=ph at *;have e1:p*(w+pl+b)=p*(u+4294967296*y9):=by rw[h5]
 have e2:p*(pl+4294967296*ph)=p*(c+q*d):=by rw[h4,kg]
 grind
theorem AjS {W X V p q u c b w take have' y9:Nat} (h:W+q*V=X+p*(c+b)) (h1:take=c+b) (h2:(have'=u/\y9=0/\take<=u)\/(have'=u+4294967296/\y9=1/\u<take)) (h3:w+take=have') :
  W+p*w+q*V=X+p*u+p*4294967296*y9:=by
 have h5:w+c+b=u+4294967296*y9:=by omega
 have e1:p*(w+c+b)=p*(u+4294967296*y9):=by rw[h5]
 grind
theorem sT {W X Vi p w d c t:Nat} (h:W+p*c=X+Vi) (ht:t=w+d+c):W+p*(t%4294967296)+p*4294967296*(t/4294967296)=X+p*w+(Vi+p*d):=by
 have h1:=UR W p t;have e:p*t=p*w+p*d+p*c:=by rw[ht];grind
 omega
theorem sS {W X V R p w c:Nat} (h:W+p*c=X+V) (hX:X+p*w+V=R+p*4294967296) (hR:R<p*4294967296) (hW:W<p):W+p*((w+c)%4294967296)=R:=by
 have h1:W+p*(w+c)=R+p*4294967296:=by
  rw[Nat.mul_add];omega
 have h2:=Nat.mod_add_div (w+c) 4294967296;have h3:p*(w+c)=p*((w+c)%4294967296)+p*4294967296*((w+c)/4294967296):=by
  rw[Nat.mul_assoc,<-Nat.mul_add,h2]
 have h4:(w+c)%4294967296<4294967296:=Nat.mod_lt _ (by omega);generalize (w+c)%4294967296=m at *;generalize (w+c)/4294967296=k at *;have h5:W+p*m<p*4294967296:=by
  have:p*m+p<=p*4294967296:=by rw[<-Nat.mul_succ];exact Nat.mul_le_mul_left p (by omega)
  omega
 have h6:k=1:=by
  rcases Nat.lt_trichotomy k 1 with hk|hk|hk
  ·have:k=0:=by omega
   subst this;omega
  ·exact hk
  ·have:p*4294967296*2<=p*4294967296*k:=Nat.mul_le_mul_left _ (by omega)
   omega
 subst h6;omega
theorem Ali {U V UL VL p u2 v2 v1 top:Nat} (hU:U=UL+p*(u2+4294967296*top)) (hV:V=VL+p*(v2+4294967296*v1)) (qh:VL<p) (h2:v2<4294967296) (h:U<4294967296*V):top<4294967296*(v1+1):=by
 have h3:V<p*(4294967296*(v1+1)):=by
  have:p*(v2+4294967296*v1)+p<=p*(4294967296*(v1+1)):=by
   rw[<-Nat.mul_succ];exact Nat.mul_le_mul_left p (by omega)
  omega
 have h4:p*(4294967296*top)<=U:=by
  have:p*(4294967296*top)<=p*(u2+4294967296*top):=Nat.mul_le_mul_left p (by omega)
  omega
 have h5:p*(4294967296*top)<p*(4294967296*(4294967296*(v1+1))):=by
  have:p*(4294967296*(4294967296*(v1+1)))=4294967296*(p*(4294967296*(v1+1))):=by grind
  omega
 have:=Nat.lt_of_mul_lt_mul_left h5
 omega
structure Gs (U V v1 v2 u2 top q r:Nat):Prop where
 hq:q*v1+r=top
 hr:r<4294967296
 ge:U/V<=q
theorem Gs.next {U V UL VL p v1 v2 u2 top q r:Nat} (g:Gs U V v1 v2 u2 top q r) (hU:U=UL+p*(u2+4294967296*top)) (hV:V=VL+p*(v2+4294967296*v1)) (hUl:UL<p) (u9:0<V) (xm:U<4294967296*V)
  (h:4294967296<=q\/r*4294967296+u2<q*v2):1<=q/\(q-1)*v1+(r+v1)=top/\U/V<=q-1:=by
 have h1:U/V<q:=by
  rcases h with h|h
  ·exact Yq xm h u9
  ·exact Yr hU hV hUl g.hq h u9
 have hq:=g.hq;clear h g hU hV xm;generalize U/V=Q at *;obtain ⟨k,rfl⟩ : ∃ k,q=k+1:=⟨q-1,by omega⟩;refine ⟨by omega,?_,by omega⟩;rw[Nat.add_sub_cancel,<-hq,Nat.add_mul];omega
theorem Gs.start {U V UL VL p v1 v2 u2 top:Nat} (hU:U=UL+p*(u2+4294967296*top)) (hV:V=VL+p*(v2+4294967296*v1)) (hUl:UL<p) (h2:u2<4294967296) (u9:0<V) (h1:0<v1) (h1b:v1<4294967296):Gs U V v1 v2 u2 top (top/v1) (top%v1):=by
 refine ⟨by rw[Nat.mul_comm];exact Nat.div_add_mod _ _,?_,?_⟩
 ·have:=Nat.mod_lt top h1
  omega
 ·rw[Nat.le_div_iff_mul_le h1]
  exact Ys hU hV hUl h2 u9
theorem ZU {U V UL VL p v1 v2 u2 top q r:Nat} (hU:U=UL+p*(u2+4294967296*top)) (hV:V=VL+p*(v2+4294967296*v1)) (qh:VL<p) (yj:2147483648<=v1) (yk:v2<4294967296) (xm:U<4294967296*V) (hq:q*v1+r=top)
  (h:(q<4294967296/\q*v2<=r*4294967296+u2)\/4294967296<=r):q<4294967296/\q<=U/V+1:=by
 rcases h with ⟨h1,h2⟩|h
 ·exact ⟨h1,zB hU hV qh yj hq h2 h1⟩
 ·have ht:=Ali hU hV qh yk xm
  have hqb:q<4294967296:=by
   have h3:q*v1<4294967296*v1:=by omega
   exact Nat.lt_of_mul_lt_mul_right h3
  refine ⟨hqb,zB hU hV qh yj hq ?_ hqb⟩;have:=Z0 hqb yk
  omega
theorem YT (a:List Nat) (k:Nat):val a=val (a.take k)+4294967296^k*val (a.drop k):=by
 rcases Nat.lt_or_ge a.length k with h|h
 ·rw[List.take_of_length_le (by omega),List.drop_of_length_le (by omega),L0];omega
 ·exact NL a k h
theorem YS (a:List Nat) (k:Nat):val (a.drop k)=a.getD k 0+4294967296*val (a.drop (k+1)):=by
 rcases Nat.lt_or_ge k a.length with h|h
 ·rw[KF (zE h),List.getD_eq_getElem?_getD,zE h];rfl
 ·rw[List.drop_of_length_le h,List.drop_of_length_le (by omega),List.getD_eq_getElem?_getD,List.getElem?_eq_none h];rfl
theorem V5 {a:List Nat} (h:CP a) (k:Nat):a.getD k 0<4294967296:=by
 rw[List.getD_eq_getElem?_getD];cases e:a[k]? with
 | none=>simp
 | some d=>simpa using h.at e
theorem getD_some {a:List Nat} {k d:Nat} (h:a[k]? = some d):d=a.getD k 0:=by rw[List.getD_eq_getElem?_getD,h];rfl
theorem getD_none {a:List Nat} {k:Nat} (h:a.length<=k):0=a.getD k 0:=by rw[List.getD_eq_getElem?_getD,List.getElem?_eq_none h];rfl
theorem kA {a:List Nat} (hD:CP a) {n:Nat} (hn:3<=n) (hl:a.length<=n) : ∃ r,r<4294967296^(n-3)/\val a=r+4294967296^(n-3)*(a.getD (n-3) 0+4294967296*(a.getD (n-2) 0+4294967296*a.getD (n-1) 0)):=by
 refine ⟨val (a.take (n-3)),?_,?_⟩
 ·refine Nat.lt_of_lt_of_le (HS (hD.take _)) (Nat.pow_le_pow_right (by omega) ?_)
  rw[List.length_take];omega
 ·have h1:=YT a (n-3)
  have h2:=YS a (n-3);have h3:=YS a (n-3+1);have h4:=YS a (n-3+1+1);rw[List.drop_of_length_le (show a.length<=n-3+1+1+1 by omega),L0]at h4;rw[show n-3+1=n-2 by omega]at *;rw[show n-2+1=n-1 by omega]at *;rw[h4,Nat.mul_zero,Nat.add_zero]at h3;rw[h3]at h2;rw[h2]at h1;exact h1
theorem Gy {a:List Nat} (hD:CP a) {n:Nat} (hn:2<=n) (hl:a.length<=n) : ∃ r,r<4294967296^(n-2)/\val a=r+4294967296^(n-2)*(a.getD (n-2) 0+4294967296*a.getD (n-1) 0):=by
 refine ⟨val (a.take (n-2)),?_,?_⟩
 ·refine Nat.lt_of_lt_of_le (HS (hD.take _)) (Nat.pow_le_pow_right (by omega) ?_)
  rw[List.length_take];omega
 ·have h1:=YT a (n-2)
  have h2:=YS a (n-2);have h3:=YS a (n-2+1);rw[List.drop_of_length_le (show a.length<=n-2+1+1 by omega),L0]at h3;rw[show n-2+1=n-1 by omega]at *;rw[h3,Nat.mul_zero,Nat.add_zero]at h2;rw[h2]at h1;exact h1
theorem V1 {a b:Nat} (h:a<=b):(dg a).length<=(dg b).length:=by
 rcases Nat.lt_or_ge (dg b).length (dg a).length with h1|h1
 ·have:=aF h1;omega
 ·exact h1
theorem lM {p:Nat} (h:p<18446744073709551616):val [p%4294967296,p/4294967296]=p/\CP [p%4294967296,p/4294967296]:=by
 refine ⟨by simp [val];omega,λ x hx => ?_⟩;simp at hx;omega
theorem JN {a:List Nat} {k d:Nat} (h:a[k]? = some d):a.getD k 0=d:=(getD_some h).symm
theorem oB {y:List Nat} {s yt:Nat} (hD:CP y) (mh:y[y.length-1]? = some yt) (hl:1<=y.length) (hs:s<=31) (b3:2147483648<=yt*2^s) (b4:yt*2^s<4294967296):val y*2^s<4294967296^y.length/\4294967296^(y.length-1)*2147483648<=val y*2^s:=by
 have h1:=NL y (y.length-1) (by omega);have h2:=KF mh;rw[List.drop_of_length_le (show y.length<=y.length-1+1 by omega),L0,Nat.mul_zero,Nat.add_zero]at h2;rw[h2]at h1;have h3:=HS (hD.take (y.length-1));rw[List.length_take,Nat.min_eq_left (by omega)]at h3;have e:4294967296^y.length=4294967296^(y.length-1)*4294967296:=by rw[<-Nat.pow_succ,Nat.succ_eq_add_one,show y.length-1+1=y.length by omega]
 rw[e];generalize 4294967296^(y.length-1)=p at *;have hk:(yt+1)*2^s<=4294967296:=by
  have e2:4294967296=2^s*2^(32-s):=by rw[<-Nat.pow_add,show s+(32-s)=32 by omega]
  rw[e2,Nat.mul_comm]at b4;have:=Nat.lt_of_mul_lt_mul_left b4
  rw[e2,Nat.mul_comm];exact Nat.mul_le_mul_left _ this
 have h4:val y+1<=p*(yt+1):=by rw[Nat.mul_add];omega
 have h5:=Nat.mul_le_mul_right (2^s) h4;have h6:p*((yt+1)*2^s)<=p*4294967296:=Nat.mul_le_mul_left p hk;rw[<-Nat.mul_assoc]at h6;have h7:p*2147483648<=p*(yt*2^s):=Nat.mul_le_mul_left p b3;have h8:p*(yt*2^s)<=val y*2^s:=by rw[<-Nat.mul_assoc];exact Nat.mul_le_mul_right _ (by omega)
 have h9:=Nat.two_pow_pos s;rw[Nat.add_mul]at h5;exact ⟨by omega,by omega⟩
theorem Gl {v:List Nat} {k c d:Nat} (hD:CP v) (hl:v.length=k+1) (h:4294967296^k*c<=val v) (hd:v[k]? = some d):c<=d:=by
 have h1:=NL v k (by omega);have h2:=KF hd;rw[List.drop_of_length_le (show v.length<=k+1 by omega),L0,Nat.mul_zero,Nat.add_zero]at h2;rw[h2]at h1;have h3:=HS (hD.take k);rw[List.length_take,Nat.min_eq_left (by omega)]at h3;generalize 4294967296^k=p at *;have h4:p*c<p*(d+1):=by rw[Nat.mul_add];omega
 have:=Nat.lt_of_mul_lt_mul_left h4
 omega
theorem wL (o:List Nat) (j n:Nat) (h:j+n<=o.length) : ∃ A W C,A.length=j/\W.length=n/\o=A++W++C:=by
 refine ⟨o.take j,(o.drop j).take n,(o.drop j).drop n,by simp;omega,by simp;omega,?_⟩;rw[List.append_assoc,List.take_append_drop,List.take_append_drop]
theorem vN {A W C:List Nat} (h:CP (A++W++C)):CP A/\CP W/\CP C:=by
 refine ⟨λ x hx=>h x (by simp [hx]),λ x hx=>h x (by simp [hx]),λ x hx=>h x (by simp [hx])⟩
theorem wN {A W C:List Nat} {j l V:Nat} (hA:A.length=j) (hW:W.length=l+1) (hD:CP (A++W++C)) (h:val ((A++W++C).drop (j+1))<V) (hV:V<4294967296^l) :
  val C=0/\val W<4294967296*V/\val ((A++W++C).take (j+1))+4294967296^(j+1)*val ((A++W++C).drop (j+1))=val A+4294967296^j*val W:=by
 have h1:=YT (A++W++C) (j+1);have h2:val (A++W++C)=val A+4294967296^j*(val W+4294967296^(l+1)*val C):=by
  rw[List.append_assoc,aE,aE,hA,hW]
 have h3:=YS (A++W++C) j;have h4:(A++W++C).drop j=W++C:=by
  rw[List.append_assoc,List.drop_append_of_le_length (by omega),List.drop_of_length_le (by omega)];rfl
 have h5:=V5 hD j;rw[h4,aE,hW]at h3;rw[Nat.pow_succ]at h3;have h6:val C=0:=by
  rcases Nat.eq_zero_or_pos (val C) with h0|h0
  ·exact h0
  ·have:4294967296^l*4294967296*1<=4294967296^l*4294967296*val C:=Nat.mul_le_mul_left _ h0
   omega
 rw[h6,Nat.mul_zero,Nat.add_zero]at h3;refine ⟨h6,by omega,?_⟩;rw[<-h1,h2,h6,Nat.mul_zero,Nat.add_zero]
theorem mC {A W C:List Nat} {j:Nat} (hA:A.length=j) (hC:val C=0):val ((A++W++C).drop j)=val W/\val ((A++W++C).take j)=val A:=by
 rw[List.append_assoc,List.drop_append_of_le_length (by omega),List.drop_of_length_le (by omega),List.take_append_of_le_length (by omega),List.take_of_length_le (by omega),List.nil_append,aE,hC];simp
theorem wM {U VA P Q q V W R:Nat} (h:U=VA+P*W+P*4294967296*(Q*V)) (h2:W=q*V+R):U=VA+P*((q+4294967296*Q)*V+R):=by
 rw[h,h2];grind
section
variable {a b:Nat} {K:AV->Prop}
theorem sK (n:Nat) (hx:a%2^n=0) (hy:b<2^n) (h:a+b<=18446744073709551615) (hk:K (.int .u64 ((a+b:Nat):Int))):BD .or .u64 (a:Int) .u64 (b:Int) K :=
 kH n hx hy (show a+b<18446744073709551616 by omega) (IntWalk.u64_in _ (by omega)) hk
theorem eF (n:Nat) (hx:b%2^n=0) (hy:a<2^n) (h:a+b<=18446744073709551615) (hk:K (.int .u64 ((a+b:Nat):Int))):BD .or .u64 (a:Int) .u64 (b:Int) K:=by
 have e:F4 .or .u64 (a:Int) .u64 (b:Int)=F4 .or .u64 (b:Int) .u64 (a:Int):=by
  simp only[F4,if_true,BitVec.or_comm]
 rw[Nat.add_comm]at hk h;have hh:=sK (K:=K) n hx hy h hk;unfold BD at hh ⊢;rw[e];exact hh
end
theorem eE {a:Nat} {K:AV->Prop} (h:a<=18446744069414584319) (hk:K (.int .u64 ((a+4294967296:Nat):Int))):BD .add .u64 (a:Int) .u64 4294967296 K :=
 I6 (b:=4294967296) (by omega) hk
theorem MP {l:List Nat} {i e:Nat} {K:List AV->Prop} (he:l[i]? = some e) (h:K (BZ e)):CY (l.map BZ) (0+((i:Int)).toNat) 0 1 K :=
 aO (e:=e) (by rw[Nat.zero_add,Int.toNat_natCast];exact he) rfl h
theorem Lq {l:List Nat} {i:Int} {e:Nat} {K:List AV->Prop} (he:l[i.toNat]? = some e) (h:K (BZ e)):CY (l.map BZ) (0+i.toNat) 0 1 K :=
 aO (e:=e) (by rw[Nat.zero_add];exact he) rfl h
theorem VS {A w C:List Nat} {i e:Nat} {K:List AV->Prop} (n:Nat) (he:w[n]? = some e) (hi:i=A.length+n) (h:K (BZ e)):CY ((A++w++C).map BZ) i 0 1 K:=by
 have hn:=(zS he).1;exact aO (e:=e) (by rw[Hc hi hn];exact he) rfl h
end Go.Eng

namespace Go.Eng
def ZV (n s:Nat):Nat:=4294967296^(n-3)*(2^(32-s)*4)
theorem Ajy (n s:Nat):0<ZV n s:=Nat.mul_pos (Nat.pow_pos (by omega)) (Nat.mul_pos (Nat.two_pow_pos _) (by omega))
theorem Du {a:List Nat} (hD:CP a) {n s d1 d2 d3:Nat} (hn:3<=n) (hl:a.length<=n) (hs:s<=31) (h1:d1=a.getD (n-1) 0) (h2:d2=a.getD (n-2) 0) (h3:d3=a.getD (n-3) 0) :
  ((d1*4294967296+d2)*2^s+d3*2^s/4294967296)/4=val a/ZV n s:=by
 obtain ⟨r,hr,hv⟩:=kA hD hn hl;rw[<-h1,<-h2,<-h3]at hv;unfold ZV;rw[hv,<-Nat.div_div_eq_div_mul,Nat.add_mul_div_left _ _ (Nat.pow_pos (by omega)),Nat.div_eq_of_lt hr,Nat.zero_add,<-Nat.div_div_eq_div_mul];congr 1;have e:d3+4294967296*(d2+4294967296*d1)=d3+2^(32-s)*(2^s*(d1*4294967296+d2)):=by
  rw[<-Nat.mul_assoc,<-Nat.pow_add,show 32-s+s=32 by omega];omega
 rw[e,Nat.add_mul_div_left _ _ (Nat.two_pow_pos _)];have:=Fe (d:=d3) (s:=s) (by omega)
 rw[YJ]at this;rw[this,Nat.mul_comm (2^s)];omega
theorem Dv {a:List Nat} (hD:CP a) {n s d1 d2:Nat} (hn:3<=n) (hl:a.length<=n) (h1:d1=a.getD (n-1) 0) (h2:d2=a.getD (n-2) 0) (l6:val a*2^s<4294967296^n) :
  (d1*4294967296+d2)*2^s<=18446744073709551615:=by
 obtain ⟨r,hr,hv⟩:=kA hD hn hl;rw[<-h1,<-h2]at hv;generalize a.getD (n-3) 0=d3 at *;have e:4294967296^n=4294967296^(n-3)*(4294967296*18446744073709551616):=by
  rw[show n=n-3+3 by omega,Nat.pow_add,show n-3+3-3=n-3 by omega]
 rw[e,hv]at l6;generalize 4294967296^(n-3)=p at *;have h3:p*(4294967296*((d1*4294967296+d2)*2^s))<p*(4294967296*18446744073709551616):=by
  refine Nat.lt_of_le_of_lt ?_ l6;rw[<-Nat.mul_assoc,<-Nat.mul_assoc];refine Nat.mul_le_mul_right _ ?_;have h5:p*(4294967296*(d2+4294967296*d1))<=p*(d3+4294967296*(d2+4294967296*d1)):=Nat.mul_le_mul_left p (by omega);rw[Nat.mul_assoc,show d1*4294967296+d2=d2+4294967296*d1 by omega];omega
 have:=Nat.lt_of_mul_lt_mul_left (Nat.lt_of_mul_lt_mul_left h3)
 omega
theorem iJ {k s:Nat} (hs:s<=64) (h:k*2^s<=18446744073709551615):k*2^s+2^s<=18446744073709551616:=by
 have e:18446744073709551616=2^(64-s)*2^s:=by rw[<-Nat.pow_add,show 64-s+s=64 by omega]
 have h1:k<2^(64-s):=by
  refine Nat.lt_of_mul_lt_mul_right (a:=2^s) ?_;rw[<-e];omega
 have h2:=Nat.mul_le_mul_right (2^s) h1;rw[Nat.succ_mul,<-e]at h2;exact h2
theorem Dw {a:List Nat} (hD:CP a) {n s:Nat} (hn:3<=n) (hl:a.length<=n) (hs:s<=31) (l6:val a*2^s<4294967296^n):val a/ZV n s<=4611686018427387904:=by
 rw[<-Du hD hn hl hs rfl rfl rfl];have h1:=Dv hD hn hl rfl rfl l6;have b3:=V5 hD (n-3);have h2:=iJ (show s<=64 by omega) h1;obtain ⟨_,h3,_,_⟩:=YK (s:=s) b3 (by omega);rw[YJ]at h3;generalize (a.getD (n-1) 0*4294967296+a.getD (n-2) 0)*2^s=T at *;generalize a.getD (n-3) 0*2^s=U at *;omega
theorem Dx {V K:Nat} (hK:0<K) : ∃ e:Int,(V:Int)=(K:Int)*((V/K:Nat):Int)+e/\0<=e/\e<=K:=by
 refine ⟨((V%K:Nat):Int),?_,by omega,?_⟩
 ·have:=Nat.div_add_mod V K
  have h2:((K*(V/K)+V%K:Nat):Int)=(V:Int):=by rw[this]
  rw[<-h2];simp
 ·have:=Nat.mod_lt V hK
  omega
def bI (t:Int):Nat:=(t%4294967296).toNat
theorem uG (t:Int):bI t<4294967296:=by unfold bI;omega
theorem lF (t:Int):(bI t:Int)=t%4294967296:=by unfold bI;omega
def VR (f g:Int):Prop:=(0<=f/\f<=2147483647 /\ -2147483647<=g/\g<=0)\/(-2147483647<=f/\f<=0/\0<=g/\g<=2147483647)
theorem Fc {f:Int} {d:Nat} (hd:d<4294967296):(0<=f->f<=2147483647->0<=f*d/\f*d<=9223372030412324865)/\(f<=0 -> -2147483647<=f->f*d<=0 /\ -9223372030412324865<=f*d):=by
 constructor
 ·intro h0 h1
  refine ⟨Int.mul_nonneg h0 (by omega),?_⟩;have:f*d<=2147483647*4294967295:=Int.mul_le_mul h1 (by omega) (by omega) (by omega)
  omega
 ·intro h0 h1
  have a1:0<=(-f)*d:=Int.mul_nonneg (by omega) (by omega);have a2:(-f)*d<=2147483647*4294967295:=Int.mul_le_mul (by omega) (by omega) (by omega) (by omega);rw[Int.neg_mul]at a1 a2;omega
theorem VR.Kk {f g:Int} (h:VR f g) {d e:Nat} (hd:d<4294967296) (he:e<4294967296):(-9223372030412324865<=f*d/\f*d<=9223372030412324865)/\(-9223372030412324865<=g*e/\g*e<=9223372030412324865) /\ -9223372030412324865<=f*d+g*e/\f*d+g*e<=9223372030412324865:=by
 obtain ⟨a1,a2⟩:=Fc (f:=f) hd;obtain ⟨b1,b2⟩:=Fc (f:=g) he;rcases h with ⟨h1,h2,h3,h4⟩|⟨h1,h2,h3,h4⟩
 ·have:=a1 h1 h2;have:=b2 h4 h3;omega
 ·have:=a2 h2 h1;have:=b1 h3 h4;omega
theorem uH {V X Y p c f g d e t:Int} (h:V+p*c=f*X+g*Y) (ht:t=f*d+c+g*e):V+p*(t%4294967296)+p*4294967296*(t/4294967296)=f*(X+p*d)+g*(Y+p*e):=by
 have h1:=Int.emod_add_mul_ediv t 4294967296;have h2:p*(t%4294967296)+p*4294967296*(t/4294967296)=p*t:=by
  rw[Int.mul_assoc,<-Int.mul_add,h1]
 have h3:p*t=f*(p*d)+p*c+g*(p*e):=by rw[ht];grind
 have h4:f*(X+p*d)=f*X+f*(p*d):=by rw[Int.mul_add]
 have h5:g*(Y+p*e)=g*Y+g*(p*e):=by rw[Int.mul_add]
 omega
theorem Rl {V P:Nat} {c R:Int} (hV:V<P) (h:(V:Int)+P*c=R) (h0:0<=R) (h1:R<P):(V:Int)=R:=by
 have hc:c=0:=by
  rcases Int.lt_trichotomy c 0 with hc|hc|hc
  ·have:(P:Int)*c<=P*(-1):=Int.mul_le_mul_of_nonneg_left (by omega) (by omega)
   omega
  ·exact hc
  ·have:(P:Int)*1<=P*c:=Int.mul_le_mul_of_nonneg_left (by omega) (by omega)
   omega
 subst hc;omega
theorem cM (x y:Nat):Nat.gcd y (x%y)=Nat.gcd x y:=by
 rw[Nat.gcd_comm x y,Nat.gcd_rec y x];exact Nat.gcd_comm _ _
def zv (neg:Bool) (m:List Nat):Int:=bif neg then -(val m:Int) else (val m:Int)
abbrev rZ (q neg:Bool) (m:List Nat):List AV:=[.bool neg,.sl q (m.map BZ)]
abbrev eZ (z:Int):List AV:=rZ false (decide (z<0)) (dg z.natAbs)
theorem HO (neg:Bool) (m:List Nat):(zv neg m).natAbs=val m:=by cases neg<;>simp [zv]
theorem HT (z:Int):zv (decide (z<0)) (dg z.natAbs)=z:=by
 unfold zv;rw[DN];by_cases h:z<0
 ·simp [h];omega
 ·simp [h];omega
def Sm (n:Nat) (m:List Nat):Prop:=CP m/\m.length<=n
theorem Sm.dg {n V:Nat} (h:V<4294967296^n):Sm n (dg V):=⟨GP V,TZ.2 h⟩
theorem Sm.le {n n':Nat} {m:List Nat} (h:Sm n m) (hn:n<=n'):Sm n' m:=⟨h.1,by have:=h.2;omega⟩
theorem Sm.val {n:Nat} {m:List Nat} (h:Sm n m):val m<4294967296^n:=Nat.lt_of_lt_of_le (HS h.1) (Nat.pow_le_pow_right (by omega) h.2)
theorem Sm.na {n:Nat} {m:List Nat} (h:Sm n m):Sm n (Go.Eng.dg (Go.Eng.val m)):=Sm.dg h.val
theorem HF {z:Int} {b:Bool} {n:Nat} (h1:n=z.natAbs) (h2:b=decide (z<0)):AV.agg [.bool b,.sl false ((dg n).map BZ)] = .agg (eZ z):=by rw[h1,h2]
theorem F7 (z:Int):CS (.agg (eZ z)):=by
 simp only[CS,FG,and_true,true_and];exact E0 _
theorem SS {z:Int} (h:z<0):true=decide (z<0):=by simp [h]
theorem JG {z:Int} (h:0<=z):false=decide (z<0):=by simp;omega
theorem Fg (n:Nat):Sm n []:=⟨T3,Nat.zero_le _⟩
theorem qC {n d:Nat} (hn:1<=n) (hd:d<4294967296):Sm n [d]:=⟨KN hd,hn⟩
theorem Gj (b:Bool):zv b []=0:=by cases b<;>rfl
theorem Sm.low {n V:Nat} {m:List Nat} (h:Sm n m) (hV:V<=Go.Eng.val m):Sm n (Go.Eng.dg V):=Sm.dg (Nat.lt_of_le_of_lt hV h.val)
theorem Sm.mul {n k:Nat} {a b:List Nat} (ha:Sm n a) (hb:Sm k b) {V:Nat} (hV:V=Go.Eng.val a*Go.Eng.val b):Sm (n+k) (Go.Eng.dg V):=by
 refine Sm.dg ?_;rw[hV,Nat.pow_add];exact Nat.mul_lt_mul_of_le_of_lt (Nat.le_of_lt ha.val) hb.val (Nat.pow_pos (by omega))
theorem Sm.add {n:Nat} {a b:List Nat} (ha:Sm n a) (hb:Sm n b) {V:Nat} (hV:V<=Go.Eng.val a+Go.Eng.val b):Sm (n+1) (Go.Eng.dg V):=by
 refine Sm.dg ?_;have h1:=ha.val;have h2:=hb.val;rw[Nat.pow_succ];omega
theorem LJ (V:Nat):(dg V).length=0↔V=0:=by rw[List.length_eq_zero_iff,lN]
theorem HD (m:List Nat):zv false m=(val m:Int):=rfl
theorem UB (m:List Nat):zv true m = -(val m:Int):=rfl
def sgn (z:Int):Int:=if z<0 then -1 else if 0<z then 1 else 0
theorem pW {z:Int} (h:z<0) : -1=sgn z:=by unfold sgn;rw[if_pos h]
theorem pX {z:Int} (h:0<z):1=sgn z:=by unfold sgn;rw[if_neg (by omega),if_pos h]
theorem jH {z:Int} (h:z=0):0=sgn z:=by unfold sgn;rw[if_neg (by omega),if_neg (by omega)]
theorem Gz {n:Nat} (h:n<18446744073709551616):val [n%4294967296,n/4294967296]=n:=(by simp [val];omega)
abbrev rQ (q1 q2 n:Bool) (m d:List Nat):List AV:=[.bool n,.sl q1 (m.map BZ),.sl q2 (d.map BZ)]
abbrev eQ (x:Rat):List AV:=rQ false false (decide (x.num<0)) (dg x.num.natAbs) (dg x.den)
def qv (n:Bool) (m d:List Nat):Rat:=mkRat (zv n m) (val d)
theorem IA (x:Rat):qv (decide (x.num<0)) (dg x.num.natAbs) (dg x.den)=x:=by
 unfold qv;rw[HT,DN,Rat.mkRat_self]
theorem yX {d:Nat} (z:Nat) (hd:d≠0):0<Nat.gcd d z:=Nat.gcd_pos_of_pos_left z (by omega)
theorem oM {z:Int} {d:Nat} (hd:d≠0):(mkRat z d).num.natAbs=z.natAbs/Nat.gcd d z.natAbs/\(mkRat z d).den=d/Nat.gcd d z.natAbs/\decide ((mkRat z d).num<0)=decide (z<0):=by
 have hg:=yX z.natAbs hd;have h1:=Rat.num_mkRat z d;have h2:=Rat.den_mkRat z d;rw[if_neg hd]at h1 h2;rw[h1,h2];obtain ⟨k,hk⟩:=Nat.gcd_dvd_right d z.natAbs;generalize hG:Nat.gcd d z.natAbs=g at *;have hz:z=(g:Int)*(z.sign*k):=by
  rw[<-Int.mul_assoc,Int.mul_comm (g:Int),Int.mul_assoc,<-Int.natCast_mul,<-hk,Int.sign_mul_natAbs]
 have e1:z/(g:Int)=z.sign*k:=by
  rw[hz,Int.mul_ediv_cancel_left _ (by omega),<-hz]
 refine ⟨?_,rfl,?_⟩
 ·rw[e1,Int.natAbs_mul,hk,Nat.mul_div_cancel_left _ hg]
  by_cases h0:z=0
  ·subst h0
   have:k=0:=by
    have h5:g*k=0:=hk.symm;rcases Nat.mul_eq_zero.1 h5 with h|h
    ·omega
    ·exact h
   subst this;simp
  ·rw[Int.natAbs_sign_of_ne_zero h0,Nat.one_mul];simp
 ·congr 1
  rw[eq_iff_iff];rw[Int.ediv_lt_iff_lt_mul (by omega),Int.zero_mul]
theorem G4 (x:Rat):CS (.agg (eQ x)):=by
 simp only[CS,FG,and_true,true_and];exact ⟨E0 _,E0 _⟩
theorem aZ (b w:Bool) (m d:List Nat):CS (.agg [.bool b,.sl false (m.map BZ),.sl false (d.map BZ),.bool w]):=by
 simp only[CS,FG,and_true,true_and];exact ⟨E0 _,E0 _⟩
theorem Rh (b:Bool) (m:List Nat):CS (.agg [.bool b,.sl false (m.map BZ)]):=by
 simp only[CS,FG,and_true,true_and];exact E0 _
theorem fR (b:Bool) (m d:List Nat):CS (.agg [.bool b,.sl false (m.map BZ),.sl false (d.map BZ)]):=by
 simp only[CS,FG,and_true,true_and];exact ⟨E0 _,E0 _⟩
theorem cL (q:Bool) (l:List Nat):aJ (.sl q (l.map BZ)):=by
 intro e he c hc;obtain ⟨x,_,rfl⟩:=List.mem_map.1 he;simp at hc;subst hc;rfl
theorem JZ {b w q1 q2:Bool} {m d:List Nat} {K:AV->Prop} (hk:K (.agg [.bool b,.sl true (m.map BZ),.sl true (d.map BZ),.bool w])):D5 (.agg [.bool b,.sl q1 (m.map BZ),.sl q2 (d.map BZ),.bool w]) K:=by
 refine ⟨λ c hc => ?_,hk⟩;simp only[List.mem_cons,List.not_mem_nil,or_false]at hc;rcases hc with rfl|rfl|rfl|rfl
 ·trivial
 ·exact cL _ _
 ·exact cL _ _
 ·trivial
theorem sF {b q1 q2:Bool} {m d:List Nat} {K:AV->Prop} (hk:K (.agg [.bool b,.sl true (m.map BZ),.sl true (d.map BZ)])):D5 (.agg [.bool b,.sl q1 (m.map BZ),.sl q2 (d.map BZ)]) K:=by
 refine ⟨λ c hc => ?_,hk⟩;simp only[List.mem_cons,List.not_mem_nil,or_false]at hc;rcases hc with rfl|rfl|rfl
 ·trivial
 ·exact cL _ _
 ·exact cL _ _
theorem WU {b q1:Bool} {m:List Nat} {K:AV->Prop} (hk:K (.agg [.bool b,.sl true (m.map BZ)])):D5 (.agg [.bool b,.sl q1 (m.map BZ)]) K:=by
 refine ⟨λ c hc => ?_,hk⟩;simp only[List.mem_cons,List.not_mem_nil,or_false]at hc;rcases hc with rfl|rfl
 ·trivial
 ·exact cL _ _
theorem iF {a b:Int} {d e:Nat} (hd:d≠0) (he:e≠0):mkRat a d+mkRat b e=mkRat (a*e+b*d) (d*e):=Rat.mkRat_add_mkRat a b hd he
theorem El {a b:Int} {d:Nat} (hd:d≠0):mkRat a d+mkRat b d=mkRat (a+b) d:=by
 rw[iF hd hd,<-Int.add_mul,Rat.mkRat_mul_right hd]
theorem oK (a b:Int) (d e:Nat):mkRat a d*mkRat b e=mkRat (a*b) (d*e):=Rat.mkRat_mul_mkRat a b d e
theorem En (a:Int):mkRat a 1=(a:Rat):=by
 have h:=Rat.mkRat_self (a:Rat);rw[Rat.num_intCast,Rat.den_intCast]at h;exact h
theorem oL {z:Int} {d:Nat} (hd:d≠0):mkRat z d=0↔z=0:=Rat.mkRat_eq_zero hd
theorem Eo {z:Int} {d:Nat} (hd:d≠0):sgn (mkRat z d).num=sgn z:=by
 obtain ⟨_,_,h⟩:=oM (z:=z) hd;have h0:(mkRat z d).num=0↔z=0:=by rw[Rat.num_eq_zero,oL hd]
 have h1:(mkRat z d).num<0↔z<0:=by simpa using h
 unfold sgn;by_cases a:z<0
 ·rw[if_pos a,if_pos (h1.2 a)]
 ·rw[if_neg a,if_neg (λ h=>a (h1.1 h))]
  by_cases b:z=0
  ·rw[if_neg (by omega),if_neg (by have:=h0.2 b;omega)]
  ·rw[if_pos (by omega),if_pos (by have:=mt h0.1 b;have:=mt h1.1 a;omega)]
theorem AjO {a b:Int} {d e:Nat} (hd:d≠0) (he:e≠0) (hb:b≠0):mkRat a d/mkRat b e=mkRat (b.sign*(a*e)) (d*b.natAbs):=by
 have hbn:b.natAbs≠0:=by omega
 have h1:mkRat b e≠0:=λ h=>hb ((oL he).1 h)
 have key:mkRat (b.sign*(a*e)) (d*b.natAbs)*mkRat b e=mkRat a d:=by
  rw[oK];have e1:b.sign*(a*e)*b=a*((b.natAbs*e:Nat):Int):=by
   have:=Int.sign_mul_self b
   rw[Int.natCast_mul,<-this];grind
  rw[e1,show d*b.natAbs*e=d*(b.natAbs*e) by rw[Nat.mul_assoc]];exact Rat.mkRat_mul_right (Nat.mul_ne_zero hbn he)
 rw[<-key,Rat.mul_div_cancel h1]
theorem Gk {x y:Int} (hy:y≠0):zv (decide (x<0) != decide (y<0)) (dg x.natAbs)=y.sign*x:=by
 unfold zv;rw[DN];rcases Int.lt_or_gt_of_ne hy with h|h
 ·rw[Int.sign_eq_neg_one_of_neg h]
  by_cases hx:x<0
  ·simp [hx,h];omega
  ·simp [hx,h];omega
 ·rw[Int.sign_eq_one_of_pos h]
  by_cases hx:x<0
  ·simp [hx,show ¬ y<0 by omega];omega
  ·simp [hx,show ¬ y<0 by omega];omega
end Go.Eng
