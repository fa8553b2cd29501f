/-
  The walk by computation is sound: calls, regions, code, loops, functions.
-/
import Derived.Test.YtjelffbnkmbgaaaDoorB4
import Derived.Test.YtjelffbnkmbgaaaDoorB1
set_option linter.unusedSimpArgs false
set_option linter.unusedVariables false
set_option linter.unnecessarySimpa false
namespace Go.Eng
section
variable {σ:Stp} {tm:Tm} {M:Mem} {st:St} {L:Lib} {ban:List Nat}
theorem okE_snap {own:Own} {q:Bool} {d:Nat} : ∀ {e:List AV},okE e=true→e.mapM (snap own q d)=some e
 | [],_=>rfl
 | v::r,h=>by
  have hv:snap own q d v=some v∧okE r=true:=by
   cases v<;>simp only[okE]at h<;>first|cases h|exact ⟨by cases d<;>rfl,h⟩
  rw[List.mapM_cons,hv.1,okE_snap hv.2];rfl
theorem okN_snap {own:Own} {q:Bool} {d:Nat} : ∀ {e:List AV},okN e=true→e.mapM (snap own q d)=some (e.map nl)
 | [],_=>rfl
 | v::r,h=>by
  have hv:snap own q d v=some (nl v)∧okN r=true:=by
   cases v<;>simp only[okN]at h<;>first|cases h|exact ⟨by cases d<;>rfl,h⟩
  rw[List.mapM_cons,hv.1,okN_snap hv.2];rfl
theorem okNL_snap {own:Own} {q:Bool} {d:Nat} : ∀ {es:List (List AV)},(∀ e∈es,okN e=true)→es.mapM (fun cs:List AV=>cs.mapM (snap own q d))=some (es.map fun e=>e.map nl)
 | [],_=>rfl
 | e::r,h=>by
  rw[List.mapM_cons,okN_snap (h e List.mem_cons_self),okNL_snap fun x hx=>h x (List.mem_cons_of_mem _ hx)];rfl
theorem okEL_snap {own:Own} {q:Bool} {d:Nat} : ∀ {es:List (List AV)},(∀ e∈es,okE e=true)→es.mapM (fun cs:List AV=>cs.mapM (snap own q d))=some es
 | [],_=>rfl
 | e::r,h=>by
  rw[List.mapM_cons,okE_snap (h e List.mem_cons_self),okEL_snap fun x hx=>h x (List.mem_cons_of_mem _ hx)];rfl
theorem snD_sound (hs:Sat σ st.own M) {q:Bool} {v:AV} {K:AV→Prop} (h:snD q M ban v K) : ∃ v',(∀ d,snap (st.own.hide ban) q (d+1) (st1 σ v)=some v')∧K v'∧v ≠ .any∧st2 σ v=st1 σ v:=by
 cases v with
 | row key t z off len =>
  have fin : ∀ (z':Nat) (es:List (List AV)),((st.own.hide ban) (σ key t).1).blk (σ key t).2=some ⟨z',es⟩→z=z'→SnR es off len (fun es=>K (.sl q es)) → ∃ v',(∀ d,snap (st.own.hide ban) q (d+1) (st1 σ (.row key t z off len))=some v')∧K v'∧AV.row key t z off len ≠ .any∧st2 σ (.row key t z off len)=st1 σ (.row key t z off len):=by
   intro z' es hb hz h;subst hz;obtain ⟨h1,h2,h3⟩:=h;refine ⟨_,fun d => ?_,h3,(by intro e;cases e),rfl⟩;simp only[st1,snap,elemsOf,Own.get,hb];rw[if_pos ⟨h1,trivial⟩];simp only;rw[okNL_snap fun e he=>h2 e (List.mem_of_mem_drop (List.mem_of_mem_take he))];rfl
  simp only[snD]at h;split at h
  ·rename_i s z' es hm
   split at h
   ·cases hz:Nat.beq z z'<;>simp only[hz,cond_true,cond_false]at h
    cases hb:okB s ban<;>simp only[hb,cond_true,cond_false]at h;refine fin z' es ?_ (beq_iff.1 hz) h;have hbk:=hs.blk _ _ _ (mref_root hm);rw[hs.site _ _ _ hm]at hbk ⊢;rw[okB_hide hb];exact hbk
   ·exact h.elim
  ·rename_i s rows hm
   split at h
   ·exact h.elim
   ·rename_i i
    split at h
    ·obtain ⟨z',es,g,h⟩:=h
     cases hz:Nat.beq z z'<;>simp only[hz,cond_true,cond_false]at h;exact fin z' es (hs.blk key (i+1) (.rw z' es) (by simp [mref,hm,g])) (beq_iff.1 hz) h
    ·rename_i b r
     cases hb:okC (b::r)<;>simp only[hb,cond_true,cond_false]at h;obtain ⟨z',es,g,h⟩:=h;cases hz:Nat.beq z z'<;>simp only[hz,cond_true,cond_false]at h;have g':mref M key (i+1)=some (.rw z' es):=by simp [mref,hm,g]
     refine fin z' es ?_ (beq_iff.1 hz) h;rw[okC_hide (hs.low _ _ _ g' rfl) hb];exact hs.blk key (i+1) (.rw z' es) g'
  ·exact h.elim
 | int k n=>exact ⟨_,fun d=>rfl,h,(by intro e;cases e),rfl⟩
 | bool b=>exact ⟨_,fun d=>rfl,h,(by intro e;cases e),rfl⟩
 | sl l es=>exact ⟨_,fun d=>rfl,h,(by intro e;cases e),rfl⟩
 | con c=>exact ⟨_,fun d=>rfl,h,(by intro e;cases e),rfl⟩
 | nil=>exact ⟨_,fun d=>rfl,h,(by intro e;cases e),rfl⟩
 | _=>exact (h:False).elim
theorem snDL_sound (hs:Sat σ st.own M) {q:Bool} : ∀ {l:List AV} {K:List AV→Prop},snDL q M ban l K → ∃ l',(∀ d,(l.map (st1 σ)).mapM (snap (st.own.hide ban) q (d+1))=some l')∧K l'
 | [],K,h=>⟨[],fun d=>rfl,h⟩
 | v::r,K,h=>by
  obtain ⟨v',h1,h2,_⟩:=snD_sound hs (show snD q M ban v fun v'=>snDL q M ban r fun r'=>K (v'::r') from h);obtain ⟨l',h3,h4⟩:=snDL_sound hs h2;refine ⟨v'::l',fun d => ?_,h4⟩;rw[List.map_cons,List.mapM_cons,h1 d,h3 d];rfl
theorem snDLL_sound (hs:Sat σ st.own M) {q:Bool} : ∀ {l:List (List AV)} {K:List (List AV)→Prop},snDLL q M ban l K → ∃ l',(∀ d,(l.map fun cs=>cs.map (st1 σ)).mapM (fun cs:List AV=>cs.mapM (snap (st.own.hide ban) q (d+1)))=some l')∧K l'
 | [],K,h=>⟨[],fun d=>rfl,h⟩
 | v::r,K,h=>by
  obtain ⟨v',h1,h2⟩:=snDL_sound hs (show snDL q M ban v fun v'=>snDLL q M ban r fun r'=>K (v'::r') from h);obtain ⟨l',h3,h4⟩:=snDLL_sound hs h2;refine ⟨v'::l',fun d => ?_,h4⟩;rw[List.map_cons,List.mapM_cons,h1 d,h3 d];rfl
theorem rowsE_snap {own:Own} {q:Bool} {d:Nat} {k:Nat} : ∀ {rows:List (Option (Nat × List (List AV)))} {i:Nat},(∀ j z es,rows[j]? = some (some (z,es))→(own (σ k (i+j+1)).1).blk (σ k (i+j+1)).2=some ⟨z,es⟩ ∧ ∀ e∈es,okE e=true) →
  (mxB σ k i rows).mapM (fun cs:List AV=>cs.mapM (snap own q (d+1)))=some (rowsE q rows)
 | [],i,h=>rfl
 | none::r,i,h=>by
  rw[mxB,List.mapM_cons,rowsE_snap (i:=i+1) fun j z es hj=>by
   have:=h (j+1) z es (by simpa using hj)
   rwa [show i+(j+1)+1=i+1+j+1 by omega]at this]
  rfl
 | some (z,es)::r,i,h=>by
  rw[mxB,List.mapM_cons,rowsE_snap (i:=i+1) fun j z es hj=>by
   have:=h (j+1) z es (by simpa using hj)
   rwa [show i+(j+1)+1=i+1+j+1 by omega]at this]
  obtain ⟨h1,h2⟩:=h 0 z es rfl;have:snap own q (d+1) (.row (σ k (i+1)).1 (σ k (i+1)).2 z 0 es.length)=some (.sl q es):=by
   simp only[snap,elemsOf,Own.get];rw[show (own (σ k (i+1)).1).blk (σ k (i+1)).2=some ⟨z,es⟩ from h1];simp only[Nat.zero_add,Nat.le_refl,and_self,if_true,List.drop_zero];rw[List.take_of_length_le (Nat.le_refl _),okEL_snap h2];rfl
  rw[List.mapM_cons,this];rfl
theorem snC_sound (hs:Sat σ st.own M) {q:Bool} {v:AV} {K:AV→Prop} (h:snC q M ban v K) : ∃ v',snap (st.own.hide ban) q 6 (st1 σ v)=some v'∧K v'∧v ≠ .any∧st2 σ v=st1 σ v∧snapA (st.own.hide ban) q (st1 σ v)=some v':=by
 have dat:snD q M ban v K → ∃ v',snap (st.own.hide ban) q 6 (st1 σ v)=some v'∧K v'∧v ≠ .any∧st2 σ v=st1 σ v∧snapA (st.own.hide ban) q (st1 σ v)=some v':=by
  intro h;obtain ⟨v',h1,h2,h3,h4⟩:=snD_sound hs h;refine ⟨v',h1 5,h2,h3,h4,?_⟩;have:=h1 5
  cases v<;>first|exact this|exact (h:False).elim
 unfold snC at h;split at h
 ·rename_i key z off len
  split at h
  ·rename_i s z' es hm
   cases hz:Nat.beq z z'<;>simp only[hz,cond_true,cond_false]at h;cases hb:okB s ban<;>simp only[hb,cond_true,cond_false]at h;cases ho:Nat.beq off 0<;>simp only[ho,cond_true,cond_false]at h;obtain rfl:=beq_iff.1 hz;obtain rfl:=beq_iff.1 ho;obtain ⟨rfl,h⟩:=h;obtain ⟨l',h1,h2⟩:=snDLL_sound hs h;have hbk:=hs.blk _ _ _ (mref_root hm);rw[hs.site _ _ _ hm]at hbk;have key:snap (st.own.hide ban) q 6 (st1 σ (.row key 0 z 0 es.length))=some (.sl q l'):=by
    simp only[st1,snap,elemsOf,Own.get,hs.site _ _ _ hm];rw[okB_hide hb,hbk];simp only[Cel.blk,Nat.zero_add,List.length_map,Nat.le_refl,and_self,if_true,List.drop_zero];rw[List.take_of_length_le (by simp),h1 4];rfl
   exact ⟨_,key,h2,(by intro e;cases e),rfl,key⟩
  ·rename_i s rows hm
   split at h
   ·cases hz:Nat.beq z 1<;>simp only[hz,cond_true,cond_false]at h
    obtain rfl:=beq_iff.1 hz;obtain ⟨rfl,rfl,h1,h2⟩:=h;have hbk:=hs.blk _ _ _ (mref_root hm);have key:snap (st.own.hide []) q 6 (st1 σ (.row key 0 1 0 rows.length))=some (.sl q (rowsE q rows)):=by
     simp only[st1,snap,elemsOf,Own.get,Own.hide];rw[hbk];simp only[Cel.blk,Nat.zero_add,mxB_len,Nat.le_refl,and_self,if_true,List.drop_zero];rw[List.take_of_length_le (by rw[mxB_len];exact Nat.le_refl _),rowsE_snap (i:=0) fun j z es hj=>⟨by
      have:=hs.blk key (j+1) (.rw z es) (by simp [mref,hm,hj])
      simpa [Cel.blk] using this,h1 z es (List.mem_of_getElem? hj)⟩]
     rfl
    exact ⟨_,key,h2,(by intro e;cases e),rfl,key⟩
   ·exact h.elim
  ·exact dat h
 ·exact dat h
theorem snL_sound (hs:Sat σ st.own M) {q:Bool} : ∀ {l:List AV} {K:List AV→Prop},snL q M ban l K → ∃ l',(l.map (st1 σ)).mapM (snap (st.own.hide ban) q 6)=some l'∧K l'
 | [],K,h=>⟨[],rfl,h⟩
 | v::r,K,h=>by
  obtain ⟨v',h1,h2,_⟩:=snC_sound hs (show snC q M ban v fun v'=>snL q M ban r fun r'=>K (v'::r') from h);obtain ⟨l',h3,h4⟩:=snL_sound hs h2;refine ⟨v'::l',?_,h4⟩;rw[List.map_cons,List.mapM_cons,h1,h3];rfl
theorem snA_sound (hs:Sat σ st.own M) {q:Bool} {v:AV} {K:AV→Prop} (h:snA q M ban v K) : ∃ v',snapA (st.own.hide ban) q (st3 σ v)=some v'∧K v'∧v ≠ .any∧st3 σ v=st2 σ v:=by
 cases v with
 | agg cs =>
  simp only[snA]at h;obtain ⟨l',h1,h2⟩:=snL_sound hs h;refine ⟨.agg l',?_,h2,(by intro e;cases e),rfl⟩;simp only[s3_agg,snapA,h1,Option.map_some]
 | tup vs=>exact (h:False).elim
 | fn p f g cs=>exact (h:False).elim
 | any=>exact (h:False).elim
 | _ =>
  simp only[snA]at h;obtain ⟨v',h1,h2,h3,h4,h5⟩:=snC_sound hs h;exact ⟨v',h5,h2,h3,rfl⟩
theorem snX_sound (hr:RX σ tm M st) : ∀ {xs:List Opd} {K:List AV→Prop},snX tm M ban xs K → ∃ vs,(xs.map st.ev).mapM (snapA (st.own.hide ban) true)=some vs∧K vs
 | [],K,h=>⟨[],rfl,h⟩
 | x::r,K,h=>by
  obtain ⟨v',h1,h2,h3,_⟩:=snA_sound hr.sat (show snA true M ban (ex tm x) fun v=>snX tm M ban r fun vs=>K (v::vs) from h);obtain ⟨l',h4,h5⟩:=snX_sound hr h2;refine ⟨v'::l',?_,h5⟩;rw[List.map_cons,List.mapM_cons,hr.ev rfl h3,h1,h4];rfl
theorem snN_sound (hs:Sat σ st.own M) {v:AV} {K:AV→Prop} (h:snN M ban v K) : ∃ v',snapN (st.own.hide ban) true (st3 σ v)=some v'∧K v'∧v ≠ .any∧st3 σ v=st2 σ v:=by
 cases v with
 | nil=>exact ⟨.nil,rfl,h,(by intro e;cases e),rfl⟩
 | _ =>
  simp only[snN]at h;obtain ⟨v',h1,h2,h3,h4⟩:=snA_sound hs h;exact ⟨v',h1,h2,h3,h4⟩
theorem snNX_sound (hr:RX σ tm M st) : ∀ {xs:List Opd} {K:List AV→Prop},snNX tm M ban xs K → ∃ vs,(xs.map st.ev).mapM (snapN (st.own.hide ban) true)=some vs∧K vs
 | [],K,h=>⟨[],rfl,h⟩
 | x::r,K,h=>by
  obtain ⟨v',h1,h2,h3,_⟩:=snN_sound hr.sat (show snN M ban (ex tm x) fun v=>snNX tm M ban r fun vs=>K (v::vs) from h);obtain ⟨l',h4,h5⟩:=snNX_sound hr h2;refine ⟨v'::l',?_,h5⟩;rw[List.map_cons,List.mapM_cons,hr.ev rfl h3,h1,h4];rfl
theorem exF_sound (hr:RX σ tm M st) : ∀ {xs:List Opd} {K:List AV→Prop},exF tm xs K → ∃ vs,xs.map st.ev=vs.map (st3 σ)∧K vs
 | [],K,h=>⟨[],rfl,h⟩
 | x::r,K,h=>by
  obtain ⟨h1,h2⟩:=fV_sound (show fV (ex tm x) fun v=>exF tm r fun vs=>K (v::vs) from h);obtain ⟨vs,h3,h4⟩:=exF_sound hr h2;exact ⟨ex tm x::vs,by rw[List.map_cons,List.map_cons,hr.ev rfl h1,h3],h4⟩
theorem clean_st1 {v:AV} (h:Clean v):st1 σ v=v:=by
 cases v<;>first|rfl|(simp only[Clean]at h)
theorem cleanL_st1 : ∀ {l:List AV},CleanL l→l.map (st1 σ)=l
 | [],_=>rfl
 | v::r,h=>by
  simp only[CleanL]at h;rw[List.map_cons,clean_st1 h.1,cleanL_st1 h.2]
theorem clean_st2 {v:AV} (h:Clean v):st2 σ v=v:=by
 cases v with
 | agg cs=>simp only[Clean]at h;simp only[st2,cleanL_st1 h]
 | fn p f g cs=>simp only[Clean]at h
 | _=>exact clean_st1 (σ:=σ) h
theorem cleanL_st2 : ∀ {l:List AV},CleanL l→l.map (st2 σ)=l
 | [],_=>rfl
 | v::r,h=>by
  simp only[CleanL]at h;rw[List.map_cons,clean_st2 h.1,cleanL_st2 h.2]
theorem clean_st3 {v:AV} (h:Clean v):st3 σ v=v:=by
 cases v with
 | tup cs=>simp only[Clean]at h;simp only[st3,cleanL_st2 h]
 | _=>exact clean_st2 (σ:=σ) h
theorem pureP_clean {I:List AV→Option (AV × Own)} {vs:List AV} {r:AV} (h:pureP I vs=some r):Clean r:=by
 unfold pureP at h;split at h
 ·split at h
  ·split at h
   ·obtain rfl:=Option.some.inj h
    assumption
   ·cases h
  ·cases h
 ·cases h
theorem Ev.clean {f:Nat} {vs:List AV} {r:AV} (h:Ev L f vs r):Clean r:=by
 obtain ⟨n,h⟩:=h;unfold evP pureX at h;split at h
 ·unfold pureS at h
  split at h
  ·split at h
   ·rename_i r1 r2 h1 h2
    split at h
    ·obtain rfl:=Option.some.inj h
     exact pureP_clean h1
    ·cases h
   ·cases h
  ·exact pureP_clean h
 ·split at h
  ·split at h
   ·obtain rfl:=Option.some.inj h
    assumption
   ·cases h
  ·cases h
theorem RX.put (h:RX σ tm M st) (d:Nat) {v v':AV} (e:v'=st3 σ v):RX σ ((d,v)::tm) M ⟨tput st.tm d v',st.own⟩:=by
 refine ⟨fun j => ?_,h.sat⟩;simp only[tg,tget_tput];cases hb:Nat.beq j d
 ·rw[if_neg (beq_false.1 hb)];exact h.tm j
 ·rw[if_pos (beq_iff.1 hb)];exact Or.inr e
theorem oneL_st : ∀ {cs:List AV},oneL cs=true→cs.map (st3 σ)=cs.map (st1 σ)
 | [],_=>rfl
 | v::r,h=>by
  simp only[oneL]at h;cases hv:one1 v<;>simp only[hv,cond_true,cond_false]at h
  ·cases h
  ·rw[List.map_cons,List.map_cons,oneL_st h]
   cases v<;>first|rfl|(simp [one1]at hv)
theorem dq1_st1 {v:AV} (h:dq1 v=true):st1 σ v=v:=by cases v<;>first|rfl|(simp [dq1]at h)
theorem dqL_st1 : ∀ {cs:List AV},cs.all dq1=true→cs.map (st1 σ)=cs
 | [],_=>rfl
 | c::r,h=>by
  simp only[List.all_cons,Bool.and_eq_true]at h;rw[List.map_cons,dq1_st1 h.1,dqL_st1 h.2]
theorem dq_st3 : ∀ {vs:List AV},vs.all dq=true→vs.map (st3 σ)=vs
 | [],_=>rfl
 | v::r,h=>by
  simp only[List.all_cons,Bool.and_eq_true]at h;rw[List.map_cons,dq_st3 h.2];congr 1;cases v with
  | agg cs=>simp only[st3,st2,dqL_st1 (show cs.all dq1=true from h.1)]
  | _=>first|rfl|(simp [dq,dq1]at h)
theorem lnd_st3 {r:AV} (hc:Clean r) (hf:FlatR r):st3 σ (lnd r)=lnd r:=by
 cases r with
 | agg cs =>
  simp only[lnd,st3,st2];congr 1;rw[List.map_map];refine List.map_congr_left fun c hcm => ?_
  have:=hf c hcm
  cases c<;>first|rfl|exact this.elim
 | _=>first|rfl|exact hf.elim
theorem lnD1_st1 {c:AV} (h:Clean c):st1 σ (lnD1 c)=lnD1 c:=by
 cases c<;>first|(simp only[lnD1,st1];done)|(simp only[Clean]at h;done)
theorem lnE_st2 {r:AV} (h:Clean r) (hd:DeepE r):st2 σ (lnE r)=lnE r:=by
 cases r with
 | agg cs =>
  simp only[Clean]at h;have : ∀ cs:List AV,CleanL cs→(lnDL cs).map (st1 σ)=lnDL cs:=by
   intro cs;induction cs with
   | nil=>intro _;simp [lnDL]
   | cons c l ih =>
    intro h;simp only[CleanL]at h;rw[lnDL,List.map_cons,ih h.2,lnD1_st1 h.1]
  simp only[lnE,st2,this cs h]
 | tup=>exact hd.elim
 | fn=>exact hd.elim
 | _=>first|(simp only[lnE,lnD1,st2,st1];done)|(simp only[Clean]at h;done)
theorem lnD_st3 {r:AV} (h:Clean r) (hd:DeepR r):st3 σ (lnD r)=lnD r:=by
 cases r with
 | tup vs =>
  simp only[Clean]at h;have : ∀ vs:List AV,CleanL vs→(∀ v∈vs,DeepE v)→(vs.map lnE).map (st2 σ)=vs.map lnE:=by
   intro vs;induction vs with
   | nil=>intro _ _;rfl
   | cons v l ih =>
    intro h hd;simp only[CleanL]at h;rw[List.map_cons,List.map_cons,ih h.2 fun x hx=>hd x (List.mem_cons_of_mem _ hx),lnE_st2 h.1 (hd v List.mem_cons_self)]
  simp only[lnD,st3,this vs h hd]
 | fn=>exact hd.elim
 | agg cs=>exact lnE_st2 h trivial
 | _=>first|exact lnE_st2 h trivial|(simp only[lnD,lnE,lnD1,st3,st2,st1];done)|(simp only[Clean]at h;done)
theorem lnR_st3 {r:AV} (h:Clean r) (hd:FlatR r∨DeepR r):st3 σ (lnR r)=lnR r:=by
 by_cases hf:FlatR r
 ·rw[lnR_flat hf];exact lnd_st3 h hf
 ·rw[lnR_deep hf];exact lnD_st3 h (hd.resolve_left hf)
theorem intA_st3 : ∀ {l:List AV},intA l=true→l.map (st3 σ)=l
 | [],_=>rfl
 | .int _ _::r,h=>by
  rw[List.map_cons,intA_st3 (l:=r) h];rfl
theorem noEb_get {s:Nat} : ∀ {M:Mem},noEb s M=true → ∀ k s' c,mget M k=some (s',c)→s'≠s
 | [],_,_,_,_,e=>by cases e
 | (k0,s0,c0)::r,h,k,s',c,e=>by
  simp only[noEb]at h;cases hb:Nat.beq s0 s<;>simp only[hb,cond_true,cond_false]at h
  ·simp only[mget]at e
   cases hk:Nat.beq k k0<;>simp only[hk,cond_true,cond_false]at e
   ·exact noEb_get h k s' c e
   ·obtain ⟨rfl,_⟩:=Prod.mk.inj (Option.some.inj e)
    exact fun e2=>by rw[e2]at hb;simp at hb
  ·cases h
theorem Sat.swapS {σ:Stp} {own own2:Own} {M:Mem} {s:Nat} (h:Sat σ own M) (hl:loSite s=false) (hn:noEb s M=true) (ho : ∀ q,q≠s→own2 q=own q):Sat σ own2 M:=by
 have hne : ∀ k t c,mref M k t=some c→(σ k t).1≠s:=fun k t c e=>by
  cases hr:c.isRow with
  | true =>
   intro e2;have:=h.low k t c e hr
   rw[e2,hl]at this;cases this
  | false =>
   obtain ⟨s',c0,g,g1,g2⟩:=mref_some e;cases t with
   | zero=>rw[h.site k s' c0 g];exact noEb_get hn k s' c0 g
   | succ i =>
    obtain ⟨rows,z,es,_,_,rfl⟩:=g2 i rfl;cases hr
 exact ⟨h.site,fun k t c e=>by rw[ho _ (hne k t c e)];exact h.blk k t c e,fun k t c e=>by rw[ho _ (hne k t c e)];exact h.old k t c e,h.inj,h.low⟩
theorem XE_good {K:AV→Mem→Prop} (hr:RX σ tm M st) {op:AOp} (h:XE L tm M ban K op):Good L tm ban K op st∨(∃ f xs,op = .call f xs)∨(∃ f xs,op = .calli f xs)∨(∃ x xs,op = .callv x xs)∨(∃ f xs,op = .callq f xs)∨(∃ s f xs,op = .callr s f xs) ∨ ∃ s f xs,op = .cals s f xs:=by
 cases op with
 | call f xs=>exact Or.inr (Or.inl ⟨_,_,rfl⟩)
 | calli f xs=>exact Or.inr (Or.inr (Or.inl ⟨_,_,rfl⟩))
 | callv x xs=>exact Or.inr (Or.inr (Or.inr (Or.inl ⟨_,_,rfl⟩)))
 | callq f xs=>exact Or.inr (Or.inr (Or.inr (Or.inr (Or.inl ⟨_,_,rfl⟩))))
 | callr s f xs=>exact Or.inr (Or.inr (Or.inr (Or.inr (Or.inr (Or.inl ⟨_,_,_,rfl⟩)))))
 | cals s f xs=>exact Or.inr (Or.inr (Or.inr (Or.inr (Or.inr (Or.inr ⟨_,_,_,rfl⟩)))))
 | appo s z b x y=>exact Or.inl (XE_appo hr h)
 | bad=>exact (show False from h).elim
 | nck x=>exact Or.inl (XE_nck hr h)
 | mkm s=>exact Or.inl (XE_mkm hr h)
 | apf z b x y=>exact Or.inl (XE_apf hr h)
 | srt fs f z x c=>exact Or.inl (XE_srt hr h)
 | mlk x k=>exact Or.inl (XE_mlk hr h)
 | mup x k v=>exact Or.inl (XE_mup hr h)
 | mov x=>exact Or.inl (XE_mov hr h)
 | vrow s z=>exact Or.inl (XE_vrow hr h)
 | pick c a b=>exact Or.inl (XE_pick hr h)
 | bin o x y=>exact Or.inl (XE_bin hr h)
 | beq ne x y=>exact Or.inl (XE_beq hr h)
 | un o x=>exact Or.inl (XE_un hr h)
 | conv k x=>exact Or.inl (XE_conv hr h)
 | box s x=>exact Or.inl (XE_box hr h)
 | alloc s z=>exact Or.inl (XE_alloc hr h)
 | build z ps=>exact Or.inl (XE_build hr h)
 | bslice s z ps=>exact Or.inl (XE_bslice hr h)
 | fadr x o=>exact Or.inl (XE_fadr hr h)
 | fld x o n a=>exact Or.inl (XE_fld hr h)
 | iadr a z x i=>exact Or.inl (XE_iadr hr h)
 | ld a n x=>exact Or.inl (XE_ld hr h)
 | st n x v=>exact Or.inl (XE_st hr h)
 | mk s z b ze l c=>exact Or.inl (XE_mk hr h)
 | slc z x lo hi=>exact Or.inl (XE_slc hr h)
 | ext x i=>exact Or.inl (XE_ext hr h)
 | len x=>exact Or.inl (XE_len hr h)
 | mm m xs=>exact Or.inl (XE_mm hr h)
 | app s z b x y=>exact Or.inl (XE_app hr h)
theorem XE_sound {K:AV→Mem→Prop} (hr:RX σ tm M st) {op:AOp} {d:Option Nat} {g:Option (Nat × Bool)} {l:List AI} {k:List It} {Q:St→Prop} (h:XE L tm M ban K op) (hg:guardA st g=some true)
  (hk : ∀ σ' v v' M' own',K v M'→v'=st3 σ' v→RX σ' tm M' ⟨st.tm,own'⟩→AO L l k ⟨((⟨st.tm,own'⟩:St).dst d v').tm,own'⟩ Q):AO L (⟨d,op,g,ban⟩::l) k st Q:=by
 rcases XE_good hr h with ⟨E,σ',v,M',h1,h2,h3,h4⟩|⟨f,xs,rfl⟩|⟨f,xs,rfl⟩|⟨x,xs,rfl⟩|⟨f,xs,rfl⟩|⟨s,f,xs,rfl⟩|⟨s,f,xs,rfl⟩
 ·rw[AO_opL hg h1,app_res]
  have:=hk σ' v _ M' _ h2 h3 h4
  cases d<;>exact this
 ·simp only[XE]at h
  obtain ⟨vs,h1,r,h2,h3⟩:=snX_sound hr h;rw[AO_call hg h1 h2];have:=hk σ r r M st.own h3 (clean_st3 h2.clean).symm hr
  cases d<;>exact this
 ·simp only[XE]at h
  split at h
  ·rename_i s
   obtain ⟨vs,h1,hF,⟨hl,hn⟩,h2⟩:=exF_sound hr h;have hs0:Sat σ (st.own.put s ⟨0,fun _=>none⟩) M:=hr.sat.swapS hl hn fun q hq=>by simp [Own.put,hq]
   obtain ⟨r,own',σ',M',⟨n,h3⟩,h4,h5,hn',h6⟩:=h2 σ _ hs0;rw[←h1]at h3;refine AO_calb hg (r:=st3 σ' r) (o':=own'.put s ⟨0,fun _=>none⟩) (by simp [Own.put]) ⟨n,fun o ho => ?_⟩ ?_
   ·rw[hF n _ _ o _ _ (fun t=>by simp [Own.get,Own.put]) (fun q hq=>by rw[ho q hq];simp [Own.put,hq]) h3]
    congr 2;funext q
    simp only[Own.put];split<;>rfl
   ·have:=hk σ' r _ M' ((own'.put s ⟨0,fun _=>none⟩).put s (st.own s)) h6 rfl ⟨fun j=>by rw[h5 j];exact hr.tm j,h4.swapS hl hn' fun q hq=>by simp [Own.put,hq]⟩
    cases d<;>exact this
  ·rename_i hb
   obtain ⟨vs,h1,h2⟩:=exF_sound hr h;obtain ⟨r,own',σ',M',h3,h4,h5,h6⟩:=h2 σ st.own hr.sat;rw[←h1]at h3;rw[AO_calli (fun s e=>hb s e) hg h3];have:=hk σ' r _ M' own' h6 rfl ⟨fun j=>by rw[h5 j];exact hr.tm j,h4⟩
   cases d<;>exact this
 ·simp only[XE]at h
  split at h
  ·rename_i f g' e1
   obtain ⟨h0,h⟩:=h;obtain ⟨vs,h1,r,h2,h3⟩:=snX_sound hr h;have e2:=hr.ev e1 (by intro e;cases e);rw[s3_fn,List.map_nil,h0]at e2;rw[AO_callp hg e2 h1 h2];have:=hk σ r r M st.own h3 (clean_st3 h2.clean).symm hr
   cases d<;>exact this
  ·rename_i f g' c cs e1
   obtain ⟨h0,h⟩:=h;obtain ⟨v',h1,h,_,_⟩:=snA_sound hr.sat h;obtain ⟨vs,h2,r,h3,h4⟩:=snX_sound hr h;have e2:=hr.ev e1 (by intro e;cases e);rw[s3_fn,h0]at e2;have h5:(AV.agg (c::cs |>.map (st1 σ))::xs.map st.ev).mapM (snapA st.own true)=some (v'::vs):=by
    rw[List.mapM_cons,show snapA st.own true (AV.agg (c::cs |>.map (st1 σ)))=some v' from h1,show (xs.map st.ev).mapM (snapA st.own true)=some vs from h2];rfl
   rw[AO_callb hg e2 h5 h3];have:=hk σ r r M st.own h4 (clean_st3 h3.clean).symm hr
   cases d<;>exact this
  ·rename_i f g' cs e1
   cases ho:oneL cs<;>simp only[ho,cond_true,cond_false]at h;obtain ⟨h0,h⟩:=h;obtain ⟨vs,h1,h2⟩:=exF_sound hr h;rw[fL_eq]at h2;obtain ⟨r,own',σ',M',h3,h4,h5,h6⟩:=h2 σ st.own hr.sat;rw[List.map_append,←h1,oneL_st (σ:=σ) ho]at h3;have e2:=hr.ev e1 (by intro e;cases e);rw[s3_fn,h0]at e2;rw[AO_callv hg e2 h3];have:=hk σ' r _ M' own' h6 rfl ⟨fun j=>by rw[h5 j];exact hr.tm j,h4⟩
   cases d<;>exact this
  ·exact h.elim
 ·simp only[XE]at h
  obtain ⟨vs,h1,h2⟩:=exF_sound hr h;cases ho:vs.all dq<;>simp only[ho,cond_true,cond_false]at h2;obtain ⟨r,h3,h4,h5⟩:=h2;have e1:xs.map st.ev=vs:=by rw[h1];exact dq_st3 ho
  rw[AO_callq hg (by rw[e1];exact ho) (by rw[e1];exact h3) h4];have:=hk σ (lnR r) (lnR r) M st.own h5 (lnR_st3 h3.clean h4).symm hr
  cases d<;>exact this
 ·simp only[XE]at h
  cases hlow:loSite s<;>simp only[hlow,cond_true,cond_false]at h;obtain ⟨vs,h1,z,es,n,h2,rfl,h3⟩:=snNX_sound hr h;obtain ⟨k',g1,g2,g3⟩:=NewF_sound h3;refine AO_callr hg h1 h2 ?_;rw[app_res];have:=hk (updF σ k' fun _=>(s,st.own.cnt s)) _ (.row s (st.own.cnt s) z 0 es.length) _ _ g3 (by simp only[s3_row,updF_same]) (hr.newq (q:=s) g1 g2 (.rw z es) trivial rfl (fun _=>hlow))
  cases d<;>exact this
 ·simp only[XE]at h
  obtain ⟨vs,h1,h2⟩:=exF_sound hr h;split at h2
  ·rename_i key rest
   cases hi:intA rest<;>simp only[hi,cond_true,cond_false]at h2;obtain ⟨cells,cells',kd,n,g1,g2,g3,g4,g5⟩:=h2;have hsite:=hr.sat.site _ _ _ g1;have hbk:=hr.sat.blk _ _ _ (mref_root g1);rw[hsite]at hbk;simp only[Cel.blk,datL_st1 g2]at hbk;have hev:xs.map st.ev = .ptr s (σ key 0).2 0 0::rest:=by
    rw[h1,List.map_cons,s3_ptr,hsite,intA_st3 hi]
   have hE:=g4 (σ key 0).2 (st.own s) hbk;refine AO_cals hg (by rw[hev];exact hE) ?_;rw[app_res];have:=hk σ (.int kd n) (.int kd n) _ _ g5 rfl (hr.stq g1 trivial (.bx cells') trivial (fun h=>by cases h))
   simp only[Cel.blk,datL_st1 g3]at this;cases d<;>exact this
  ·exact h2.elim
theorem guard_some (hr:RX σ tm M st) {g:Nat} {w:Bool} {b:Bool} (e:tg tm g = .bool b):guardA st (some (g,w))=some (b == w):=by
 rcases hr.tm g with h|h
 ·rw[e]at h;cases h
 ·rw[e]at h
  simp only[guardA,h,s3_bool]
theorem guard_tup (hr:RX σ tm M st) {g:Nat} {w:Bool} (e:tg tm g = .tup []):guardA st (some (g,w))=some false:=by
 rcases hr.tm g with h|h
 ·rw[e]at h;cases h
 ·rw[e]at h
  simp only[guardA,h,s3_tup,List.map_nil]
theorem tcl_tg {key:Nat} : ∀ (tm:Tm) (j:Nat),tg (tcl key tm) j = .any∨tg (tcl key tm) j=tg tm j
 | [],_=>Or.inl rfl
 | (i,v)::r,j=>by
  simp only[tcl];cases hc:ch3 key v<;>cases hb:Nat.beq j i;all_goals simp only[cond_true,cond_false,tg,hb]
  ·exact tcl_tg r j
  ·exact Or.inr trivial
  ·exact tcl_tg r j
  ·exact Or.inl trivial
theorem xk_sound {v:AV} {K:Tm→Prop} (h:xk v tm K) : ∃ tm',(∀ j,tg tm' j = .any∨tg tm' j=tg tm j)∧K tm':=by
 unfold xk at h;split at h
 ·rw[fT_eq]at h
  exact ⟨_,fun j=>tcl_tg _ j,h⟩
 ·exact ⟨_,fun j=>Or.inr rfl,h⟩
theorem XO_sound {k:List It} {Q:Tm→Mem→Prop} : ∀ {l:List AI} {K:Tm→Mem→Prop} {tm:Tm} {M:Mem},XO L l K tm M→(∀ tm' M',K tm' M'→AKM L k tm' M' Q)→AOM L l k tm M Q
 | [],K,tm,M,h,hk=>fun σ st hr=>AO_nil.2 (hk tm M h σ st hr)
 | o::l,K,tm,M,h,hk=>by
  intro σ st hr;have h:XI L o (XO L l) K tm M:=h;have ih : ∀ tm' M',XO L l K tm' M'→AOM L l k tm' M' Q:=fun tm' M' h'=>XO_sound h' hk
  have some_ : ∀ (d:Nat) (op:AOp) (g:Option (Nat × Bool)) (ban:List Nat),guardA st g=some true→XE L tm M ban (fun v M=>XO L l K ((d,v)::tm) M) op→AO L (⟨some d,op,g,ban⟩::l) k st (SQ Q):=by
   intro d op g ban hg hx;refine XE_sound hr hx hg ?_;intro σ' v v' M' own' h1 h2 h3;exact ih _ _ h1 σ' _ (h3.put d h2)
  have somek_ : ∀ (d:Nat) (u:AV) (op:AOp) (ban:List Nat),XE L tm M ban (fun v M=>xk u tm fun tm=>XO L l K ((d,v)::tm) M) op→AO L (⟨some d,op,none,ban⟩::l) k st (SQ Q):=by
   intro d u op ban hx;refine XE_sound hr hx rfl ?_;intro σ' v v' M' own' h1 h2 h3;obtain ⟨tm',g1,g2⟩:=xk_sound h1;exact ih _ _ g2 σ' _ ((show RX σ' tm' M' ⟨st.tm,own'⟩ from ⟨fun j=>(g1 j).elim Or.inl fun e=>by rw[e];exact h3.tm j,h3.sat⟩).put d h2)
  have none_ : ∀ (op:AOp) (g:Option (Nat × Bool)) (ban:List Nat),guardA st g=some true→XE L tm M ban (fun _ M=>XO L l K tm M) op→AO L (⟨none,op,g,ban⟩::l) k st (SQ Q):=by
   intro op g ban hg hx;refine XE_sound hr hx hg ?_;intro σ' v v' M' own' h1 h2 h3;exact ih _ _ h1 σ' _ h3
  have skip_ : ∀ (d:Option Nat) (op:AOp) (g:Option (Nat × Bool)) (ban:List Nat),guardA st g=some false→(match d with|some d=>XO L l K ((d,.tup [])::tm) M|none=>XO L l K tm M)→AO L (⟨d,op,g,ban⟩::l) k st (SQ Q):=by
   intro d op g ban hg hx;rw[AO_not hg];cases d with
   | none=>exact ih _ _ hx σ _ hr
   | some d=>exact ih _ _ hx σ _ (hr.put d rfl)
  obtain ⟨d,op,g,ban⟩:=o;cases g with
  | none =>
   cases d with
   | none=>exact none_ op none ban rfl h
   | some d =>
    cases op with
    | app s z b x y=>exact somek_ d (ex tm x) (.app s z b x y) ban h
    | _=>exact some_ d _ none ban rfl h
  | some gw =>
   obtain ⟨g,w⟩:=gw;have h:(match tg tm g with
    | .bool b=>fB (b == w) fun c=>match c,d with
     | true,some d=>XE L tm M ban (fun v M=>XO L l K ((d,v)::tm) M) op
     | true,none=>XE L tm M ban (fun _ M=>XO L l K tm M) op
     | false,some d=>XO L l K ((d,.tup [])::tm) M
     | false,none=>XO L l K tm M
    | .tup []=>match d with
     | some d=>XO L l K ((d,.tup [])::tm) M
     | none=>XO L l K tm M
    | _=>False):=by cases d<;>cases op<;>exact h
   split at h
   ·rename_i b e
    rw[fB_eq]at h;have hg:=guard_some hr (w:=w) e;cases hb:(b == w)<;>rw[hb]at h hg
    ·exact skip_ d op _ ban hg (by cases d<;>exact h)
    ·cases d with
     | none=>exact none_ op _ ban hg h
     | some d=>exact some_ d op _ ban hg h
   ·rename_i e
    exact skip_ d op _ ban (guard_tup hr e) (by cases d<;>exact h)
   ·exact h.elim
theorem XK_sound {Q:Tm→Mem→Prop} : ∀ {n:Nat} {k:List It} {tm:Tm} {M:Mem},XK L Q n k tm M→AKM L k tm M Q
 | 0,k,tm,M,h=>h
 | n+1,[],tm,M,h=>fun σ st hr=>AK_nil.2 ⟨σ,tm,M,hr,h⟩
 | n+1,it::k,tm,M,h=>by
  have h:XS L Q (XK L Q n) (it::k) tm M:=h;have ih : ∀ k tm M,XK L Q n k tm M→AKM L k tm M Q:=fun k tm M h=>XK_sound h
  intro σ st hr;cases it with
  | blk id=>exact AK_blk.2 (ih _ _ _ h σ st hr)
  | drp ts ss =>
   simp only[XS,fN_eq,fT_eq]at h;cases ss with
   | cons s r=>exact h.elim
   | nil =>
    refine AK_drp.2 (ih _ _ _ h σ _ ⟨fun j => ?_,hr.sat⟩);rw[tg_cnm,tget_tdrop,bit_mask,bit_zero,Bool.false_or];cases hc:ts.contains j
    ·simp only[Bool.false_eq_true,if_false,cond_false]
     exact hr.tm j
    ·exact Or.inl rfl
  | lp c=>exact h σ st hr
  | code c =>
   cases c with
   | skip=>exact AK_skip.2 (ih _ _ _ h σ st hr)
   | ops l d=>exact AK_ops.2 (XO_sound h (fun tm' M' h'=>ih _ _ _ h') σ st hr)
   | dr c ts ss=>exact AK_dr.2 (ih _ _ _ h σ st hr)
   | scope c=>exact AK_scope.2 (ih _ _ _ h σ st hr)
   | seq a b=>exact AK_seq.2 (ih _ _ _ h σ st hr)
   | cond x a b =>
    simp only[XS]at h;split at h
    ·rename_i b' e
     rw[fB_eq]at h;rw[AK_cond (hr.ev e (by intro e;cases e))];cases b'
     ·simpa using ih _ _ _ h σ st hr
     ·simpa using ih _ _ _ h σ st hr
    ·exact h.elim
   | block id c=>exact AK_block.2 (ih _ _ _ h σ st hr)
   | loop c=>exact AK_loop.2 (AK_lp.1 (h σ st hr))
   | exit id =>
    simp only[XS]at h;split at h
    ·rename_i k' e
     exact (AK_exit e).2 (ih _ _ _ h σ st hr)
    ·exact h.elim
   | ret=>exact AK_ret.2 ⟨σ,tm,M,hr,h⟩
theorem resX_sound (hr:RX σ tm M st) {r:ARes} {K:AV→Prop} (h:resX tm M r K) : ∃ v,resOf st r=some (st3 σ v)∧K v∧st3 σ v=st2 σ v:=by
 cases r with
 | tmp t =>
  simp only[resX]at h;obtain ⟨h1,h2,h3⟩:=f2_sound (σ:=σ) h;refine ⟨_,?_,h3,h2⟩;rcases hr.tm t with e|e
  ·exact absurd e h1
  ·simp only[resOf,e]
   cases hv:tg tm t<;>rw[hv]at h h1<;>first|rfl|exact (h:False).elim
 | cell t agg n =>
  simp only[resX]at h;split at h
  ·rename_i key i j e
   split at h
   ·rename_i s cs hm
    cases hi:Nat.beq i 0<;>simp only[hi,cond_true,cond_false]at h;obtain rfl:=beq_iff.1 hi;split at h
    ·rename_i ds hp
     rw[fL_eq]at h;rcases hr.tm t with e'|e'
     ·rw[e]at e';cases e'
     ·have hs:=hr.sat.site _ _ _ hm
      have hbk:=hr.sat.blk _ _ _ (mref_root hm);rw[hs]at hbk;have flat : ∀ v,ofCells agg (ds.map (st1 σ))=some (st3 σ v)→resOf st (.cell t agg n)=some (st3 σ v):=by
       intro v hv;simp only[resOf,e',e,s3_ptr,Own.ldp,Own.get,hs,hbk,Cel.blk,List.getElem?_cons_zero,part_map hp,hv]
      cases agg
      ·simp only[ofc]at h
       split at h
       ·rename_i c
        obtain ⟨_,h1,h2⟩:=fF_sound (σ:=σ) h;refine ⟨c,flat c (by rw[h1];rfl),h2,?_⟩;rw[h1];cases c<;>first|rfl|exact (h:False).elim
       ·exact h.elim
      ·exact ⟨.agg ds,flat _ rfl,h,rfl⟩
    ·exact h.elim
   ·exact h.elim
  ·exact h.elim
theorem resLX_sound (hr:RX σ tm M st) : ∀ {l:List ARes} {K:List AV→Prop},resLX tm M l K → ∃ vs,l.mapM (resOf st)=some (vs.map (st3 σ))∧K vs∧vs.map (st3 σ)=vs.map (st2 σ)
 | [],K,h=>⟨[],rfl,h,rfl⟩
 | r::l,K,h=>by
  obtain ⟨v,h1,h2,h3⟩:=resX_sound hr (show resX tm M r fun v=>resLX tm M l fun vs=>K (v::vs) from h);obtain ⟨vs,h4,h5,h6⟩:=resLX_sound hr h2;exact ⟨v::vs,by rw[List.mapM_cons,h1,h4];rfl,h5,by rw[List.map_cons,List.map_cons,h3,h6]⟩
theorem snAL_sound (hs:Sat σ st.own M) {q:Bool} : ∀ {l:List AV} {K:List AV→Prop},snAL q M l K → ∃ l',(l.map (st3 σ)).mapM (snapA st.own q)=some l'∧K l' ∧ ∀ v∈l,st3 σ v=st2 σ v
 | [],K,h=>⟨[],rfl,h,fun v hv=>by cases hv⟩
 | v::r,K,h=>by
  obtain ⟨v',h1,h2,_,h0⟩:=snA_sound hs (show snA q M [] v fun v'=>snAL q M r fun r'=>K (v'::r') from h);obtain ⟨l',h3,h4,h5⟩:=snAL_sound hs h2;refine ⟨v'::l',?_,h4,fun u hu => ?_⟩
  ·rw[List.map_cons,List.mapM_cons,show snapA st.own q (st3 σ v)=some v' from h1,h3];rfl
  ·rcases List.mem_cons.1 hu with rfl|hu
   ·exact h0
   ·exact h5 u hu
theorem snapR_one {own:Own} {q:Bool} {v v':AV} (h:snapA own q v=some v'):snapR own q v=some v':=by
 cases v with
 | tup vs=>simp [snapA,snap]at h
 | _=>exact h
theorem mapM_two {f:AV→Option AV} {x y:AV} {r l':List AV} (h:(x::y::r).mapM f=some l') : ∃ a b c,l'=a::b::c:=by
 rw[List.mapM_cons,List.mapM_cons]at h;cases hx:f x with
 | none=>rw[hx]at h;cases h
 | some a =>
  cases hy:f y with
  | none=>rw[hx,hy]at h;cases h
  | some b =>
   cases hr:r.mapM f with
   | none=>rw[hx,hy,hr]at h;cases h
   | some c =>
    rw[hx,hy,hr]at h;exact ⟨a,b,c,(Option.some.inj h).symm⟩
theorem RetX_sound {fn:AFn} {r:AV} (hr:RX σ tm M st) (h:RetX fn r tm M):Res fn r st:=by
 unfold RetX at h;obtain ⟨vs,h1,h2,h3⟩:=resLX_sound hr h;obtain ⟨l',h4,h5,h6⟩:=snAL_sound hr.sat h2;unfold Res;rw[h1,Option.map_some,Option.bind_some];match vs,l',h4,h5 with
 | [],l',h4,h5 =>
  obtain rfl:=Option.some.inj h4;obtain ⟨e,hc⟩:=h5;exact ⟨by rw[←e];rfl,hc⟩
 | [v],l',h4,h5 =>
  rw[List.map_cons,List.map_nil,List.mapM_cons]at h4;cases hv:snapA st.own false (st3 σ v) with
  | none=>rw[hv]at h4;cases h4
  | some v' =>
   rw[hv]at h4;obtain rfl:=Option.some.inj h4;obtain ⟨e,hc⟩:=h5;exact ⟨by rw[←e];exact snapR_one hv,hc⟩
 | v::u::w,l',h4,h5 =>
  obtain ⟨a,b,c,rfl⟩:=mapM_two (show List.mapM (snapA st.own false) (st3 σ v::st3 σ u::w.map (st3 σ))=some l' from h4);obtain ⟨e,hc⟩:=h5;refine ⟨?_,hc⟩;rw[←e];have h4:List.mapM (snapA st.own false) (st3 σ v::st3 σ u::w.map (st3 σ))=some (a::b::c):=h4;show Option.map AV.tup (List.mapM (snapA st.own false) (st3 σ v::st3 σ u::w.map (st3 σ)))=_;rw[h4];rfl
def datA:AV→Bool
 | .agg cs=>datL cs
 | v=>dat v
def datAL:List AV→Bool
 | []=>true
 | v::r=>bif datA v then datAL r else false
theorem datA_st3 {v:AV} (h:datA v=true):st3 σ v=v:=by
 cases v with
 | agg cs=>simp only[datA]at h;simp only[st3,st2,datL_st1 h]
 | _=>first|rfl|cases h
theorem datAL_tg {σ:Stp} : ∀ {vs:List AV} {i:Nat},datAL vs=true → ∀ j,tget (initTm i vs) j=st3 σ (tget (initTm i vs) j)
 | [],_,_,_=>rfl
 | v::r,i,h,j=>by
  simp only[datAL]at h;cases hv:datA v<;>simp only[hv,cond_true,cond_false]at h
  ·cases h
  ·simp only[initTm_cons,tget_cons]
   split
   ·exact (datA_st3 hv).symm
   ·exact datAL_tg h j
theorem EvD.x {f:Nat} {fn:AFn} {vs:List AV} {r:AV} (hL:L f=some fn) (hp:Nat.beq vs.length fn.pars=true) (hd:datAL vs=true) (h:AKM L [.code fn.body] (initTm 0 vs) [] (RetX fn r)):EvD L f vs r:=by
 refine EvD.fwd hL (beq_iff.1 hp) (AK_mono (h (fun _ _=>(0,0)) ⟨initTm 0 vs,Own.emp⟩ ⟨fun j=>Or.inr ?_,?_⟩) ?_)
 ·rw[tg_eq];exact datAL_tg hd j
 ·exact ⟨(fun _ _ _ e=>by cases e),(fun _ _ _ e=>by simp [mref,mget]at e),(fun _ _ _ e=>by simp [mref,mget]at e),(fun _ _ _ _ _ _ e=>by simp [mref,mget]at e),(fun _ _ _ e=>by simp [mref,mget]at e)⟩
 ·rintro s ⟨σ,tm,M,hr,hq⟩
  exact RetX_sound hr hq
theorem Ev.x {f:Nat} {fn:AFn} {vs:List AV} {r:AV} (hL:L f=some fn) (hp:Nat.beq vs.length fn.pars=true) (hd:datAL vs=true) (h:AKM L [.code fn.body] (initTm 0 vs) [] (RetX fn r)) (hs:fn.spl=false:=by rfl):Ev L f vs r:=(EvD.x hL hp hd h).ev hL hs
def rkL:List (Nat × Nat)→Nat→Nat
 | [],k=>k
 | (a,b)::r,k=>bif Nat.beq k a then b else rkL r k
def rk1 (τ:List (Nat × Nat)):AV→AV
 | .row k t z o n => .row (rkL τ k) t z o n
 | .ptr k t i j => .ptr (rkL τ k) t i j
 | .mp k t => .mp (rkL τ k) t
 | v=>v
def rkC1 (τ:List (Nat × Nat)):List AV→List AV
 | []=>[]
 | v::r=>rk1 τ v::rkC1 τ r
def rk2 (τ:List (Nat × Nat)):AV→AV
 | .agg cs => .agg (rkC1 τ cs)
 | .fn p f g cs => .fn p f g (rkC1 τ cs)
 | v=>rk1 τ v
def rkC2 (τ:List (Nat × Nat)):List AV→List AV
 | []=>[]
 | v::r=>rk2 τ v::rkC2 τ r
def rk3 (τ:List (Nat × Nat)):AV→AV
 | .tup cs => .tup (rkC2 τ cs)
 | v=>rk2 τ v
def rkCC (τ:List (Nat × Nat)):List (List AV)→List (List AV)
 | []=>[]
 | v::r=>rkC1 τ v::rkCC τ r
def rkC (τ:List (Nat × Nat)):Cel→Cel
 | .bx cs => .bx (rkC1 τ cs)
 | .rw z es => .rw z es
 | .bs z es => .bs z (rkCC τ es)
 | .mx rows => .mx rows
 | .hx i v rows => .hx i v rows
 | .vw w rows => .vw w rows
variable {τ:List (Nat × Nat)}
theorem rkC1_eq : ∀ l:List AV,rkC1 τ l=l.map (rk1 τ)
 | []=>rfl
 | v::r=>by rw[rkC1,rkC1_eq r];rfl
theorem rkC2_eq : ∀ l:List AV,rkC2 τ l=l.map (rk2 τ)
 | []=>rfl
 | v::r=>by rw[rkC2,rkC2_eq r];rfl
theorem st1_rk (v:AV):st1 (fun k t=>σ (rkL τ k) t) v=st1 σ (rk1 τ v):=by cases v<;>rfl
theorem st2_rk (v:AV):st2 (fun k t=>σ (rkL τ k) t) v=st2 σ (rk2 τ v):=by
 cases v with
 | agg cs=>simp only[st2,rk2,rkC1_eq,List.map_map];exact congrArg AV.agg (List.map_congr_left fun v _=>st1_rk v)
 | fn p f g cs=>simp only[st2,rk2,rkC1_eq,List.map_map];exact congrArg (AV.fn p f g) (List.map_congr_left fun v _=>st1_rk v)
 | _=>rfl
theorem st3_rk (v:AV):st3 (fun k t=>σ (rkL τ k) t) v=st3 σ (rk3 τ v):=by
 cases v with
 | tup cs=>simp only[st3,rk3,rkC2_eq,List.map_map];exact congrArg AV.tup (List.map_congr_left fun v _=>st2_rk v)
 | agg cs=>exact st2_rk (.agg cs)
 | fn p f g cs=>exact st2_rk (.fn p f g cs)
 | _=>rfl
theorem rkCC_eq : ∀ l:List (List AV),rkCC τ l=l.map (rkC1 τ)
 | []=>rfl
 | v::r=>by rw[rkCC,rkCC_eq r];rfl
theorem mxB_rk {k:Nat} : ∀ (rows:List (Option (Nat × List (List AV)))) (i:Nat),mxB (fun k t=>σ (rkL τ k) t) k i rows=mxB σ (rkL τ k) i rows
 | [],i=>rfl
 | none::r,i=>by rw[mxB,mxB,mxB_rk r]
 | some (z,es)::r,i=>by rw[mxB,mxB,mxB_rk r]
theorem blk_rk (c:Cel) (k:Nat):c.blk (fun k t=>σ (rkL τ k) t) k=(rkC τ c).blk σ (rkL τ k):=by
 cases c with
 | bx cs =>
  simp only[Cel.blk,rkC,rkC1_eq,List.length_map,List.map_map];rw[List.map_congr_left fun v _=>st1_rk v];rfl
 | rw z es=>rfl
 | bs z es =>
  simp only[Cel.blk,rkC,rkCC_eq,List.map_map];congr 1;refine List.map_congr_left fun cs _ => ?_
  simp only[Function.comp,rkC1_eq,List.map_map];exact List.map_congr_left fun v _=>st1_rk v
 | mx rows=>simp only[Cel.blk,rkC,mxB_rk]
 | hx i v rows=>simp only[Cel.blk,rkC,mxB_rk]
 | vw w rows=>simp only[Cel.blk,rkC,mxB_rk]
def mput (k s:Nat) (c:Cel):Mem→Mem
 | []=>[(k,s,c)]
 | (j,s',c')::r=>bif Nat.beq k j then (k,s,c)::r else (j,s',c')::mput k s c r
def mcan:Mem→Mem
 | []=>[]
 | (k,s,c)::r=>mput k s c (mcan r)
def mcanK:Mem→(Mem→Prop)→Prop
 | [],K=>K []
 | (k,s,c)::r,K=>mcanK r fun r'=>fM (mput k s c r') K
theorem mcanK_eq : ∀ (M:Mem) (K:Mem→Prop),mcanK M K=K (mcan M)
 | [],_=>rfl
 | (k,s,c)::r,K=>by rw[mcanK,mcanK_eq r,fM_eq];rfl
theorem mget_mput (k s:Nat) (c:Cel) (j:Nat) : ∀ M:Mem,mget (mput k s c M) j=bif Nat.beq j k then some (s,c) else mget M j
 | []=>rfl
 | (i,s',c')::r=>by
  simp only[mput];cases hk:Nat.beq k i
  ·simp only[cond_false,mget,mget_mput k s c j r]
   cases hj:Nat.beq j i<;>cases hjk:Nat.beq j k<;>simp only[cond_true,cond_false];exact absurd ((beq_iff.1 hjk).symm.trans (beq_iff.1 hj)) (beq_false.1 hk)
  ·obtain rfl:=beq_iff.1 hk
   simp only[cond_true,mget];cases Nat.beq j k<;>rfl
theorem mget_mcan (j:Nat) : ∀ M:Mem,mget (mcan M) j=mget M j
 | []=>rfl
 | (k,s,c)::r=>by simp only[mcan,mget_mput,mget_mcan j r,mget]
theorem mref_mcan (k t:Nat):mref (mcan M) k t=mref M k t:=by simp only[mref,mget_mcan]
def memt (τ:List (Nat × Nat)) (M:Mem):List (Nat × Nat × Cel)→List (Option (Nat × Cel))
 | []=>[]
 | (k,_,_)::r=>mget M (rkL τ k)::memt τ M r
def memw (τ:List (Nat × Nat)):List (Nat × Nat × Cel)→List (Option (Nat × Cel))
 | []=>[]
 | (_,s,c)::r=>some (s,rkC τ c)::memw τ r
def tmt (tm:Tm):Tm→List AV
 | []=>[]
 | (j,_)::r=>tg tm j::tmt tm r
def tmw (τ:List (Nat × Nat)):Tm→List AV
 | []=>[]
 | (_,v)::r=>rk3 τ v::tmw τ r
def nodB:List Nat→Bool
 | []=>true
 | k::r=>bif memN k r then false else nodB r
def keys (τ:List (Nat × Nat)):Mem→List Nat
 | []=>[]
 | (k,_,_)::r=>rkL τ k::keys τ r
theorem mem_w : ∀ {M':Mem} {M:Mem},memt τ M M'=memw τ M' → ∀ k s c,mget M' k=some (s,c)→mget M (rkL τ k)=some (s,rkC τ c)
 | [],_,_,_,_,_,e=>by cases e
 | (i,s',c')::r,M,h,k,s,c,e=>by
  simp only[memt,memw,List.cons.injEq]at h;simp only[mget]at e;cases hb:Nat.beq k i<;>simp only[hb,cond_true,cond_false]at e
  ·exact mem_w h.2 k s c e
  ·simp only[Option.some.injEq,Prod.mk.injEq]at e
   obtain ⟨rfl,rfl⟩:=e;rw[beq_iff.1 hb];exact h.1
theorem mem_keys : ∀ {M:Mem} {k s:Nat} {c:Cel},mget M k=some (s,c)→memN (rkL τ k) (keys τ M)=true
 | (i,s',c')::r,k,s,c,e=>by
  simp only[mget]at e;simp only[keys,memN];cases hb:Nat.beq k i<;>simp only[hb,cond_true,cond_false]at e
  ·rw[mem_keys e];cases Nat.beq (rkL τ k) (rkL τ i)<;>rfl
  ·rw[beq_iff.1 hb];simp
theorem nod_inj : ∀ {M:Mem},nodB (keys τ M)=true → ∀ {k k' s s':Nat} {c c':Cel},mget M k=some (s,c)→mget M k'=some (s',c')→rkL τ k=rkL τ k'→k=k'
 | [],_,_,_,_,_,_,_,e,_,_=>by cases e
 | (i,s0,c0)::r,h,k,k',s,s',c,c',e,e',hk=>by
  simp only[keys,nodB]at h;cases hm:memN (rkL τ i) (keys τ r)<;>simp only[hm,cond_true,cond_false]at h
  ·simp only[mget]at e e'
   cases hb:Nat.beq k i<;>cases hb':Nat.beq k' i<;>simp only[hb,hb',cond_true,cond_false]at e e'
   ·exact nod_inj h e e' hk
   ·obtain rfl:=beq_iff.1 hb'
    have:=mem_keys (τ:=τ) e
    rw[hk,hm]at this;cases this
   ·obtain rfl:=beq_iff.1 hb
    have:=mem_keys (τ:=τ) e'
    rw[←hk,hm]at this;cases this
   ·exact (beq_iff.1 hb).trans (beq_iff.1 hb').symm
  ·cases h
theorem tm_w : ∀ {tm':Tm} {tm:Tm},tmt tm tm'=tmw τ tm' → ∀ j,tg tm' j = .any∨tg tm j=rk3 τ (tg tm' j)
 | [],_,_,_=>Or.inl rfl
 | (i,v)::r,tm,h,j=>by
  simp only[tmt,tmw,List.cons.injEq]at h;simp only[tg];cases hb:Nat.beq j i<;>simp only[cond_true,cond_false]
  ·exact tm_w h.2 j
  ·rw[beq_iff.1 hb];exact Or.inr h.1
def tdel (ts:List Nat) (tm:Tm):Tm:=match ts with
 | []=>tm
 | t::ts=>cnm (mask 0 (t::ts)) tm
def EqX (τ:List (Nat × Nat)) (tm:Tm) (M:Mem) (tm':Tm) (M':Mem):Prop :=
 fT (cnm 0 tm') fun l=>mcanK M' fun m=>tmt tm l=tmw τ l∧memt τ M m=memw τ m∧nodB (keys τ m)=true
theorem AKM.back {k:List It} {tm':Tm} {M':Mem} {Q:Tm→Mem→Prop} (τ:List (Nat × Nat)) (he:EqX τ tm M tm' M') (h:AKM L k tm' M' Q):AKM L k tm M Q:=by
 unfold EqX at he;rw[fT_eq,mcanK_eq]at he;obtain ⟨ht,hm,hn⟩:=he;intro σ st hr;have hg : ∀ k s c,mget M' k=some (s,c)→mget M (rkL τ k)=some (s,rkC τ c):=fun k s c e=>mem_w hm k s c (by rw[mget_mcan];exact e)
 have hgr : ∀ k t c,mref M' k t=some c→mref M (rkL τ k) t=some (rkC τ c):=by
  intro k t c e;obtain ⟨s,c0,g1,g2,g3⟩:=mref_some e;have:=hg k s c0 g1
  cases t with
  | zero=>rw[g2 rfl];exact mref_root this
  | succ i =>
   obtain ⟨rows,z,es,(rfl|⟨a,v,rfl⟩)|⟨w,rfl⟩,hr,rfl⟩:=g3 i rfl
   ·simp [mref,this,rkC,hr]
   ·simp [mref,this,rkC,hr]
   ·simp [mref,this,rkC,hr]
 refine h (fun k t=>σ (rkL τ k) t) st ⟨fun j => ?_,⟨?_,?_,?_,?_,?_⟩⟩
 ·have:=tm_w ht j
  rw[tg_cnm,bit_zero,cond_false]at this;rcases this with e|e
  ·exact Or.inl e
  ·rcases hr.tm j with e'|e'
   ·left
    rw[e']at e;cases hv:tg tm' j<;>rw[hv]at e<;>first|rfl|cases e
   ·right
    rw[e',e,st3_rk]
 ·intro k s c e;exact hr.sat.site _ _ _ (hg k s c e)
 ·intro k t c e;rw[blk_rk];exact hr.sat.blk _ _ _ (hgr k t c e)
 ·intro k t c e;exact hr.sat.old _ _ _ (hgr k t c e)
 ·intro k t k' t' c c' e e' hk
  obtain ⟨q1,q2⟩:=hr.sat.inj _ _ _ _ _ _ (hgr _ _ _ e) (hgr _ _ _ e') hk;obtain ⟨s,c0,g,_⟩:=mref_some e;obtain ⟨s',c0',g',_⟩:=mref_some e';exact ⟨nod_inj hn (by rw[mget_mcan];exact g) (by rw[mget_mcan];exact g') q1,q2⟩
 ·intro k t c e hw
  exact hr.sat.low _ _ _ (hgr k t c e) (by cases c<;>exact hw)
theorem AKM.bk {k:List It} {tm':Tm} {M':Mem} {Q:Tm→Mem→Prop} (τ:List (Nat × Nat)) (h:AKM L k tm' M' Q) (he:EqX τ tm M tm' M':=by (conv=>whnf);exact ⟨rfl,rfl,rfl⟩):AKM L k tm M Q:=AKM.back τ he h
theorem AKM.can {k:List It} {Q:Tm→Mem→Prop} (h:AKM L k (cnm 0 tm) (mcan M) Q):AKM L k tm M Q:=by
 intro σ st hr;refine h σ st ⟨fun j => ?_,⟨?_,?_,?_,?_,?_⟩⟩
 ·rw[tg_cnm,bit_zero,cond_false];exact hr.tm j
 ·intro k s c e;rw[mget_mcan]at e;exact hr.sat.site _ _ _ e
 ·intro k t c e;rw[mref_mcan]at e;exact hr.sat.blk _ _ _ e
 ·intro k t c e;rw[mref_mcan]at e;exact hr.sat.old _ _ _ e
 ·intro k t k' t' c c' e e' hk
  rw[mref_mcan]at e e';exact hr.sat.inj _ _ _ _ _ _ e e' hk
 ·intro k t c e hw;rw[mref_mcan]at e;exact hr.sat.low _ _ _ e hw
theorem AKM.lp {k:List It} {c:ACode} {Q:Tm→Mem→Prop} (h:AKM L (.code c :: .lp c::k) tm M Q):AKM L (.lp c::k) tm M Q:=fun σ st hr=>AK_lp.2 (h σ st hr)
theorem AKM.loop {α:Type} {k:List It} {c:ACode} {Q:Tm→Mem→Prop} (m:α→Nat) (P:α→Prop) (vs:α→Tm) (Ms:α→Mem) (ts:List Nat) (τ:List (Nat × Nat)) (a:α)
  (he:EqX τ tm M (vs a++tdel ts tm) (Ms a++M)) (hp:P a)
  (step : ∀ a,P a→(∀ a',m a'<m a→P a'→AKM L (.lp c::k) (vs a'++tdel ts tm) (Ms a'++M) Q)→AKM L (.code c :: .lp c::k) (vs a++tdel ts tm) (Ms a++M) Q):AKM L (.lp c::k) tm M Q:=by
 have key : ∀ n a,m a<n→P a→AKM L (.lp c::k) (vs a++tdel ts tm) (Ms a++M) Q:=by
  intro n;induction n with
  | zero=>intro a h;omega
  | succ n ih =>
   intro a ha hp;exact AKM.lp (step a hp fun a' h1 h2=>ih a' (by omega) h2)
 exact AKM.back τ he (key (m a+1) a (by omega) hp)
end
end Go.Eng
namespace Go.Eng
section
variable {α:Type} {enc:α→List AV} {l:List α} {L:Lib}
theorem CmpP.go {p q A B:Prop} (h1:p→A) (h2:q→B):CmpP p q A B:=⟨h1,h2⟩
theorem Req.go {p A:Prop} (h1:p) (h2:A):Req p A:=⟨h1,h2⟩
section
variable {K:AV→Prop} {a b:Int} {k k':IntKind} {op:BinOp}
theorem OpP.go {v:AV} (h:intBin op k a k' b=some v) (hk:K v):OpP op k a k' b K:=⟨v,h,hk⟩
theorem OpP.add (hr : -9223372036854775808≤a+b∧a+b≤9223372036854775807) (hk:K (.int .i64 (a+b))):OpP .add .i64 a .i64 b K:=⟨_,by simp only[intBin,if_true];rw[IntWalk.i64_in _ hr],hk⟩
theorem OpP.sub (hr : -9223372036854775808≤a-b∧a-b≤9223372036854775807) (hk:K (.int .i64 (a-b))):OpP .sub .i64 a .i64 b K:=⟨_,by simp only[intBin,if_true];rw[IntWalk.i64_in _ hr],hk⟩
theorem OpP.mul (hr : -9223372036854775808≤a*b∧a*b≤9223372036854775807) (hk:K (.int .i64 (a*b))):OpP .mul .i64 a .i64 b K:=⟨_,by simp only[intBin,if_true];rw[IntWalk.i64_in _ hr],hk⟩
theorem OpP.shl1 (h:0≤b∧b≤62) (hk:1≤pw b→pw b≤4611686018427387904→K (.int .i64 (pw b))):OpP .shl .i64 1 k' b K:=⟨_,shl_one h,hk (pw_pos b) (pw_le62 h.2)⟩
theorem OpP.andm (h:0≤b∧b≤62) (hk:0≤a%pw b→a%pw b<pw b→K (.int .i64 (a%pw b))):OpP .and .i64 a .i64 (pw b-1) K:=⟨_,and_mask rfl h,hk (Int.emod_nonneg _ (by have:=pw_pos b;omega)) (Int.emod_lt_of_pos _ (by have:=pw_pos b;omega))⟩
theorem OpP.rem (hb:0<b) (h1:(0≤a∨a%b=0)→0≤a%b→a%b<b→K (.int .i64 (a%b))) (h2:a<0→a%b≠0→0≤a%b→a%b<b→K (.int .i64 (a%b-b))):OpP .rem .i64 a .i64 b K:=by
 have h5:0≤a%b:=Int.emod_nonneg _ (by omega);have h6:a%b<b:=Int.emod_lt_of_pos _ hb;have e:intBin .rem .i64 a .i64 b=some (.int .i64 (a.tmod b)):=by simp only[intBin];rw[if_pos ⟨trivial,by omega⟩]
 by_cases hc:0≤a∨a%b=0
 ·rw[tmod_pos hb,if_pos hc]at e
  exact ⟨_,e,h1 hc h5 h6⟩
 ·rw[tmod_pos hb,if_neg hc]at e
  exact ⟨_,e,h2 (by omega) (by omega) h5 h6⟩
theorem OpP.quo (hb:0<b) (ha : -9223372036854775808≤a∧a≤9223372036854775807) (h1:(0≤a∨a%b=0)→K (.int .i64 (a/b))) (h2:a<0→a%b≠0→K (.int .i64 (a/b+1))):OpP .quo .i64 a .i64 b K:=by
 have hr:=ediv_range (m:=b) (by omega) ha;have e:intBin .quo .i64 a .i64 b=some (.int .i64 (IntKind.i64.wrap (a.tdiv b))):=by simp only[intBin];rw[if_pos ⟨trivial,by omega⟩]
 by_cases hc:0≤a∨a%b=0
 ·rw[tdiv_pos hb,if_pos hc,IntWalk.i64_in _ hr]at e
  exact ⟨_,e,h1 hc⟩
 ·have hneg:a/b<0:=Int.ediv_neg_of_neg_of_pos (by omega) hb
  rw[tdiv_pos hb,if_neg hc,IntWalk.i64_in _ (by omega)]at e;exact ⟨_,e,h2 (by omega) (by omega)⟩
theorem OpP.shr (h:0≤b∧b≤63) (hk:K (.int .i64 (a/pw b))):OpP .shr .i64 a k' b K:=⟨_,shr_div h,hk⟩
theorem OpP.and1 (hk:K (.int .i64 (a%2))):OpP .and .i64 a .i64 1 K:=⟨_,and_one,hk⟩
theorem OpP.wadd (hk:K (.int k (k.wrap (a+b)))):OpP .add k a k b K:=⟨_,by simp only[intBin,if_true],hk⟩
theorem OpP.wsub (hk:K (.int k (k.wrap (a-b)))):OpP .sub k a k b K:=⟨_,by simp only[intBin,if_true],hk⟩
theorem OpP.wmul (hk:K (.int k (k.wrap (a*b)))):OpP .mul k a k b K:=⟨_,by simp only[intBin,if_true],hk⟩
theorem UnP.neg (hr : -9223372036854775808 ≤ -a ∧ -a≤9223372036854775807) (hk:K (.int .i64 (-a))):UnP .neg .i64 a K:=⟨_,by simp only[unA];rw[show (0:Int)-a = -a by omega,IntWalk.i64_in _ hr],hk⟩
theorem UnP.go {op:UnOp} {v:AV} (h:unA op (.int k a)=some v) (hk:K v):UnP op k a K:=⟨v,h,hk⟩
end
theorem ConvP.go {k:IntKind} {n:Int} {K:Int→Prop} (h:K (k.wrap n)):ConvP k n K:=⟨h⟩
theorem ConvP.id {k:IntKind} {n:Int} {K:Int→Prop} (e:k.wrap n=n) (h:K n):ConvP k n K:=⟨by rw[e];exact h⟩
theorem ConvP.u64 {n:Int} {K:Int→Prop} (hr:0≤n∧n≤18446744073709551615) (h:K n):ConvP .u64 n K:=ConvP.id (IntWalk.u64_in _ hr) h
theorem ConvP.i64 {n:Int} {K:Int→Prop} (hr : -9223372036854775808≤n∧n≤9223372036854775807) (h:K n):ConvP .i64 n K:=ConvP.id (IntWalk.i64_in _ hr) h
theorem RdP.at {a:Int} {z:Nat} {K:List AV→Prop} {e:α} (he:l[a.toNat]? = some e) (h0:0≤a) (hz:(enc e).length=z) (h:K (enc e)):RdP (l.map enc) a z K:=⟨h0,enc e,by simp [he],hz,h⟩
theorem RdP.go {a:Int} {z:Nat} {K:List AV→Prop} (h0:0≤a∧a<l.length) (hz : ∀ e,(enc e).length=z) (h : ∀ e,l[a.toNat]? = some e→K (enc e)):RdP (l.map enc) a z K:=by
 have he:l[a.toNat]? = some (l[a.toNat]'(by omega)):=List.getElem?_eq_getElem _;exact RdP.at he h0.1 (hz _) (h _ he)
theorem RdP.nat {n z:Nat} {K:List AV→Prop} (hn:n<l.length) (hz : ∀ e,(enc e).length=z) (h : ∀ e,l[n]? = some e→K (enc e)):RdP (l.map enc) (n:Int) z K :=
 RdP.go ⟨by omega,by omega⟩ hz h
theorem LdR.nat {i j n:Nat} {K:List AV→Prop} {f:α→List AV} (hi:i<l.length) (hp : ∀ e,part (enc e) j n=some (f e)) (h : ∀ e,l[i]? = some e→K (f e)):LdR (l.map enc) (0+((i:Int)).toNat) j n K:=by
 have he:l[i]? = some l[i]:=List.getElem?_eq_getElem _;rw[Nat.zero_add,Int.toNat_natCast];exact ⟨enc l[i],f l[i],by simp [he],hp _,h _ he⟩
theorem LdR.int {i:Int} {j n:Nat} {K:List AV→Prop} {f:α→List AV} (hi:0≤i∧i<l.length) (hp : ∀ e,part (enc e) j n=some (f e)) (h : ∀ e,l[i.toNat]? = some e→K (f e)):LdR (l.map enc) (0+i.toNat) j n K:=by
 have hl:i.toNat<l.length:=by omega
 have he:l[i.toNat]? = some l[i.toNat]:=List.getElem?_eq_getElem _;rw[Nat.zero_add];exact ⟨enc l[i.toNat],f l[i.toNat],by rw[List.getElem?_map,he];rfl,hp _,h _ he⟩
theorem StR.nat {i:Nat} {vs:List AV} {K:List (List AV)→Prop} (e:α) (he:vs=enc e) (hz : ∀ x,(enc x).length=vs.length) (hi:i<l.length) (h:K ((l.set i e).map enc)):StR (l.map enc) (0+((i:Int)).toNat) 0 vs K:=by
 rw[Nat.zero_add,Int.toNat_natCast];refine ⟨enc l[i],by simp [List.getElem?_eq_getElem hi],by rw[hz];omega,?_⟩;rw[show splice (enc l[i]) 0 vs=vs by simp [splice,←hz l[i]],he,←List.map_set];exact h
theorem LdR.at {i j n:Nat} {K:List AV→Prop} {e:α} {ds:List AV} (he:l[i]? = some e) (hp:part (enc e) j n=some ds) (h:K ds):LdR (l.map enc) i j n K:=⟨enc e,ds,by simp [he],hp,h⟩
theorem LdR.go {i j n:Nat} {K:List AV→Prop} (f:α→List AV) (hi:i<l.length) (hp : ∀ e,part (enc e) j n=some (f e)) (h : ∀ e,l[i]? = some e→K (f e)):LdR (l.map enc) i j n K:=by
 have he:l[i]? = some l[i]:=List.getElem?_eq_getElem _;exact LdR.at he (hp _) (h _ he)
theorem splice_all {cs vs:List AV} (h:cs.length=vs.length):splice cs 0 vs=vs:=by
 simp [splice,←h]
theorem StR.go {i:Nat} {vs:List AV} {K:List (List AV)→Prop} (e:α) (he:vs=enc e) (hz : ∀ x,(enc x).length=vs.length) (hi:i<l.length) (h:K ((l.set i e).map enc)):StR (l.map enc) i 0 vs K:=by
 refine ⟨enc l[i],by simp [List.getElem?_eq_getElem hi],by rw[hz];omega,?_⟩;rw[splice_all (hz _),he,←List.map_set];exact h
theorem MkR.go {a b:Int} {bytes:Nat} {zero:List AV} {K:List (List AV)→Nat→Prop} (x:α) (n:Nat) (hx:zero=enc x) (hn:a=n) (hr:a≤b∧b*bytes≤140737488355328∧b≤9223372036854775807) (h:K ((List.replicate n x).map enc) n):MkR a b bytes zero K:=by
 subst hn hx;refine ⟨⟨by omega,hr.1,by simpa [roomMax] using hr.2.1,hr.2.2⟩,?_⟩;simpa using h
theorem MkR.got {a b:Int} {bytes:Nat} {zero:List AV} {K:List (List AV)→Nat→Prop} (x:α) (hx:zero=enc x) (h0:0≤a) (hr:a≤b∧b*bytes≤140737488355328∧b≤9223372036854775807) (h:K ((List.replicate a.toNat x).map enc) a.toNat):MkR a b bytes zero K:=by
 subst hx;refine ⟨⟨h0,hr.1,by simpa [roomMax] using hr.2.1,hr.2.2⟩,?_⟩;simpa using h
theorem LenP.go {K:Nat→Prop} (h:K l.length):LenP (l.map enc) K:=⟨by simpa using h⟩
theorem AppR.one {len z bytes:Nat} {vs:List AV} {K:List (List AV)→Nat→Prop} (e:α) (he:vs=enc e) (hl:len=l.length) (hz:vs.length=z) (hr:(l.length+1)*bytes≤140737488355328) (hr2:l.length+1≤9223372036854775807) (h:K ((l++[e]).map enc) (l++[e]).length):AppR (l.map enc) len [vs] z bytes K:=by
 subst hl;refine ⟨by simp,by simpa using hz,by simpa [roomMax] using hr,by simpa using hr2,?_⟩;rw[List.take_of_length_le (by simp)];simpa [he] using h
theorem AppR.many {len z bytes:Nat} {l':List α} {K:List (List AV)→Nat→Prop} (hl:len=l.length) (hz : ∀ x,(enc x).length=z) (hr:(l.length+l'.length)*bytes≤140737488355328) (hr2:l.length+l'.length≤9223372036854775807) (h:K ((l++l').map enc) (l++l').length):AppR (l.map enc) len (l'.map enc) z bytes K:=by
 subst hl;refine ⟨by simp,by simp [hz],by simpa [roomMax] using hr,by simpa using hr2,?_⟩;rw[List.take_of_length_le (by simp)];simpa using h
theorem AppN.one {z bytes:Nat} {vs:List AV} {K:List (List AV)→Nat→Prop} (e:α) (he:vs=enc e) (hz:vs.length=z) (hb:bytes≤140737488355328) (h:K ([e].map enc) 1):AppN [vs] z bytes K :=
 ⟨by simpa using hz,by simpa [roomMax] using hb,by simp,by simpa [he] using h⟩
theorem AppN.many {z bytes:Nat} {K:List (List AV)→Nat→Prop} (hz : ∀ x,(enc x).length=z) (hr:l.length*bytes≤140737488355328) (hr2:l.length≤9223372036854775807) (h:K (l.map enc) l.length):AppN (l.map enc) z bytes K :=
 ⟨by simp [hz],by simpa [roomMax] using hr,by simpa using hr2,by simpa using h⟩
theorem CpyR.all {len z:Nat} {l':List α} {K:List (List AV)→Nat→Prop} (hl:len=l.length) (hl':l'.length=l.length) (hz : ∀ x,(enc x).length=z) (h:K (l'.map enc) l'.length):CpyR (l.map enc) 0 len (l'.map enc) z K:=by
 subst hl;refine ⟨by simp,by simp [hz],?_⟩;have e:min (l'.map enc).length l.length=l.length:=by simp [hl']
 rw[e,List.take_zero,List.nil_append,List.take_of_length_le (by simp [hl']),List.drop_of_length_le (by simp),List.append_nil,←hl'];exact h
theorem RowP.all {off len:Nat} {K:List (List AV)→Prop} (ho:off=0) (hl:len=l.length) (h:K (l.map enc)):RowP (l.map enc) off len K:=by
 subst hl ho;exact ⟨by simp,by rw[List.drop_zero,List.take_of_length_le (by simp)];exact h⟩
theorem RowP.part {off len:Nat} {K:List (List AV)→Prop} (hl:off+len≤l.length) (h:K (((l.drop off).take len).map enc)):RowP (l.map enc) off len K :=
 ⟨by simpa using hl,by rw[←List.map_drop,←List.map_take];exact h⟩
theorem okE_nl : ∀ {e:List AV},okE e=true→okN e=true∧e.map nl=e
 | [],_=>⟨rfl,rfl⟩
 | v::r,h=>by
  have hv:okE r=true:=by cases v<;>simp only[okE]at h<;>first|cases h|exact h
  obtain ⟨h1,h2⟩:=okE_nl hv;cases v<;>simp only[okE]at h<;>first|cases h|exact ⟨h1,by rw[List.map_cons,h2];rfl⟩
theorem okEL_nl : ∀ {es:List (List AV)},(∀ e∈es,okE e=true)→es.map (fun e=>e.map nl)=es
 | [],_=>rfl
 | e::r,h=>by rw[List.map_cons,(okE_nl (h e List.mem_cons_self)).2,okEL_nl fun x hx=>h x (List.mem_cons_of_mem _ hx)]
theorem SnR.mk {es:List (List AV)} {off len:Nat} {K:List (List AV)→Prop} (hl:off+len≤es.length) (hz : ∀ e∈es,okE e=true) (h:K ((es.drop off).take len)):SnR es off len K :=
 ⟨hl,fun e he=>(okE_nl (hz e he)).1,by rw[okEL_nl fun e he=>hz e (List.mem_of_mem_drop (List.mem_of_mem_take he))];exact h⟩
theorem SnR.all {off len:Nat} {K:List (List AV)→Prop} (hz : ∀ x,okE (enc x)=true) (ho:off=0) (hl:len=l.length) (h:K (l.map enc)):SnR (l.map enc) off len K:=by
 subst hl ho;refine SnR.mk (by simp) (fun e he => ?_) (by rw[List.drop_zero,List.take_of_length_le (by simp)];exact h);obtain ⟨x,_,rfl⟩:=List.mem_map.1 he;exact hz x
theorem SnR.part {off len:Nat} {K:List (List AV)→Prop} (hz : ∀ x,okE (enc x)=true) (hl:off+len≤l.length) (h:K (((l.drop off).take len).map enc)):SnR (l.map enc) off len K:=by
 refine SnR.mk (by simpa using hl) (fun e he => ?_) (by rw[←List.map_drop,←List.map_take];exact h);obtain ⟨x,_,rfl⟩:=List.mem_map.1 he;exact hz x
theorem RowP.e0 {K:List (List AV)→Prop} (h:K []):RowP [] 0 0 K:=⟨by simp,h⟩
theorem RowP.e1 {e:List AV} {K:List (List AV)→Prop} (h:K [e]):RowP [e] 0 1 K:=⟨by simp,h⟩
theorem RowP.e2 {e e':List AV} {K:List (List AV)→Prop} (h:K [e,e']):RowP [e,e'] 0 2 K:=⟨by simp,h⟩
theorem SnR.e0 {K:List (List AV)→Prop} (h:K []):SnR [] 0 0 K:=⟨by simp,by simp,h⟩
theorem SnR.e1 {e:List AV} {K:List (List AV)→Prop} (h0:okE e=true) (h:K [e]):SnR [e] 0 1 K:=SnR.mk (by simp) (by simpa using h0) h
theorem SnR.e2 {e e':List AV} {K:List (List AV)→Prop} (h0:okE e=true) (h1:okE e'=true) (h:K [e,e']):SnR [e,e'] 0 2 K:=SnR.mk (by simp) (by simpa using ⟨h0,h1⟩) h
theorem SnR.n2 {e':List AV} {K:List (List AV)→Prop} (h1:okE e'=true) (h:K [[.sl false []],e']):SnR [[.nil],e'] 0 2 K :=
 ⟨by simp,by simpa using ⟨rfl,(okE_nl h1).1⟩,by simpa [(okE_nl h1).2,nl] using h⟩
section
variable {β:Type} {z:Nat} {ll:List (List β)} {en:β→List AV}
abbrev mxR (z:Nat) (en:β→List AV) (ll:List (List β)):List (Option (Nat × List (List AV))):=ll.map fun r=>some (z,r.map en)
theorem LdM.nat {i:Nat} {K:Option (Nat × List (List AV))→Prop} (hi:i<ll.length) (h : ∀ r,ll[i]? = some r→K (some (z,r.map en))):LdM (mxR z en ll) (0+((i:Int)).toNat) K:=by
 have he:ll[i]? = some ll[i]:=List.getElem?_eq_getElem _;exact ⟨_,by rw[Nat.zero_add,Int.toNat_natCast,List.getElem?_map,he];rfl,h _ he⟩
theorem LdM.int {i:Int} {K:Option (Nat × List (List AV))→Prop} (hi:0≤i∧i<ll.length) (h : ∀ r,ll[i.toNat]? = some r→K (some (z,r.map en))):LdM (mxR z en ll) (0+i.toNat) K:=by
 have hl:i.toNat<ll.length:=by omega
 have he:ll[i.toNat]? = some ll[i.toNat]:=List.getElem?_eq_getElem _;exact ⟨_,by rw[Nat.zero_add,List.getElem?_map,he];rfl,h _ he⟩
theorem GetM.at {i:Nat} {K:Nat→List (List AV)→Prop} {r:List β} (hr:ll[i]? = some r) (h:K z (r.map en)):GetM (mxR z en ll) i K :=
 ⟨z,r.map en,by rw[List.getElem?_map,hr];rfl,h⟩
theorem SetM.nat {i:Nat} {r:List β} {K:List (Option (Nat × List (List AV)))→Prop} (hi:i<ll.length) (h:K (mxR z en (ll.set i r))):SetM (mxR z en ll) (0+((i:Int)).toNat) z (r.map en) K:=by
 rw[Nat.zero_add,Int.toNat_natCast];exact ⟨by simpa using hi,by simpa [mxR,List.map_set] using h⟩
theorem PutM.nat {i:Nat} {r r':List β} {K:List (Option (Nat × List (List AV)))→Prop} (hl:r'.length=r.length) (h:K (mxR z en (ll.set i r'))):PutM (mxR z en ll) (0+((i:Int)).toNat) z (r.map en) (r'.map en) K:=by
 rw[Nat.zero_add,Int.toNat_natCast];exact ⟨by simpa using hl,by simpa [mxR,List.map_set] using h⟩
theorem AppM.go {len bytes:Nat} {r:List β} {K:List (Option (Nat × List (List AV)))→Nat→Prop} (hl:len=ll.length) (hr:(ll.length+1)*bytes≤140737488355328) (hr2:ll.length+1≤9223372036854775807) (h:K (mxR z en (ll++[r])) (ll++[r]).length):AppM (mxR z en ll) len (some (z,r.map en)) bytes K:=by
 subst hl;exact ⟨by simp,by simpa [roomMax] using hr,hr2,by simpa [mxR] using h⟩
theorem AppM.any {rows:List (Option (Nat × List (List AV)))} {len bytes:Nat} {r:Option (Nat × List (List AV))} {K:List (Option (Nat × List (List AV)))→Nat→Prop} (hl:len=rows.length) (hr:(rows.length+1)*bytes≤140737488355328) (hr2:rows.length+1≤9223372036854775807) (h:K (rows++[r]) (rows++[r]).length):AppM rows len r bytes K:=by
 subst hl;exact ⟨rfl,by simpa [roomMax] using hr,hr2,by simpa using h⟩
theorem rowsE_map (q:Bool) : ∀ ll:List (List β),rowsE q (mxR z en ll)=ll.map fun r=>[AV.sl q (r.map en)]
 | []=>rfl
 | r::l=>by simp only[mxR,List.map_cons,rowsE];rw[show rowsE q (l.map fun r=>some (z,r.map en))=_ from rowsE_map q l]
theorem SnM.all {q:Bool} {off len:Nat} {K:List (List AV)→Prop} (hz : ∀ x,okE (en x)=true) (ho:off=0) (hl:len=ll.length) (h:K (ll.map fun r=>[AV.sl q (r.map en)])):SnM q (mxR z en ll) off len K:=by
 refine ⟨ho,by simpa using hl,fun z' es hm e he => ?_,by rw[rowsE_map];exact h⟩;obtain ⟨r,_,hr⟩:=List.mem_map.1 hm;simp only[Option.some.injEq,Prod.mk.injEq]at hr;obtain ⟨rfl,rfl⟩:=hr;obtain ⟨x,_,rfl⟩:=List.mem_map.1 he;exact hz x
end
theorem Bds.nn {len:Nat} {K:Nat→Nat→Prop} (h:K 0 len):Bds none none len K:=⟨0,len,rfl,rfl,by omega,h⟩
theorem Bds.sn {len:Nat} {a:Int} {K:Nat→Nat→Prop} (h0:0≤a∧a≤len) (h:K a.toNat len):Bds (some a) none len K:=⟨a.toNat,len,⟨h0.1,rfl⟩,rfl,by omega,h⟩
theorem Bds.ss {len:Nat} {a b:Int} {K:Nat→Nat→Prop} (h0:0≤a∧a≤b∧b≤len) (h:K a.toNat b.toNat):Bds (some a) (some b) len K:=⟨a.toNat,b.toNat,⟨h0.1,rfl⟩,⟨by omega,by omega,rfl⟩,by omega,h⟩
theorem SlS.go {z:Nat} {lo hi:Option Int} {K:List (List AV)→Prop} (hz : ∀ x,(enc x).length=z) (h:Bds lo hi l.length fun a h=>K (((l.take h).drop a).map enc)):SlS z (l.map enc) lo hi K:=by
 refine ⟨by simp [hz],?_⟩;rw[List.length_map];obtain ⟨a,b,h1,h2,h3,h4⟩:=h;refine ⟨a,b,h1,h2,h3,?_⟩;show K _;rw[←List.map_take,←List.map_drop];exact h4
theorem SlS.off {z k:Nat} {K:List (List AV)→Prop} (hz : ∀ x,(enc x).length=z) (hk:k≤l.length) (h:K ((l.drop k).map enc)):SlS z (l.map enc) (some (k:Int)) none K :=
 SlS.go hz (Bds.sn (by omega) (by simpa using h))
theorem CallP.go {f:Nat} {vs:List AV} {K:AV→Prop} {r:AV} (h:Ev L f vs r) (hk:K r):CallP L f vs K:=⟨r,h,hk⟩
theorem CallP.b {f:Nat} {vs:List AV} {K:AV→Prop} {p:Prop} [Decidable p] (h:Ev L f vs (.bool (decide p))) (h1:p→K (.bool true)) (h2 : ¬ p→K (.bool false)):CallP L f vs K:=by
 refine ⟨_,h,?_⟩;by_cases e:p
 ·rw[decide_eq_true e];exact h1 e
 ·rw[decide_eq_false e];exact h2 e
theorem CallP.B {f:Nat} {vs:List AV} {K:AV→Prop} {b:Bool} (h:Ev L f vs (.bool b)) (h1:b=true→K (.bool true)) (h2:b=false→K (.bool false)):CallP L f vs K:=by
 refine ⟨_,h,?_⟩;cases b
 ·exact h2 rfl
 ·exact h1 rfl
theorem FinP.go {a r:AV} (h:a=r) (hc:Clean r):FinP a r:=⟨h,hc⟩
theorem FinP.b {a r:Bool} (h:a=r):FinP (.bool a) (.bool r):=⟨by rw[h],by simp [Clean]⟩
theorem FinP.dt {p:Prop} [Decidable p] (h:p):FinP (.bool true) (.bool (decide p)):=⟨by simp [h],by simp [Clean]⟩
theorem FinP.df {p:Prop} [Decidable p] (h : ¬ p):FinP (.bool false) (.bool (decide p)):=⟨by simp [h],by simp [Clean]⟩
theorem FinP.i {k:IntKind} {a b:Int} (h:a=b):FinP (.int k a) (.int k b):=⟨by rw[h],by simp [Clean]⟩
theorem cleanLL_map (h : ∀ x,CleanL (enc x)) : ∀ l:List α,CleanLL (l.map enc)
 | []=>by simp [CleanLL]
 | x::r=>by rw[List.map_cons,CleanLL];exact ⟨h x,cleanLL_map h r⟩
end
theorem cl_ints (l:List Int):CleanLL (l.map encInt):=cleanLL_map (fun _=>by simp [CleanL,Clean]) l
theorem AKM.loop1 {α:Type} {L:Lib} {k:List It} {cd:ACode} {tm:Tm} {M:Mem} {Q:Tm→Mem→Prop} (m:α→Nat) (P:α→Prop) (vs:α→Tm) (Ms:α→Mem) (ts:List Nat) (τ:List (Nat × Nat)) (a:α)
  (he:EqX τ tm M (vs a++tdel ts tm) (Ms a++M)) (hp:P a)
  (step : ∀ a,P a→(∀ a',m a'<m a→P a'→AKM L (.lp cd::k) (vs a'++tdel ts tm) (Ms a'++M) Q)→AKM L (.code cd :: .lp cd::k) (vs a++tdel ts tm) (Ms a++M) Q):AKM L (.lp cd::k) tm M Q :=
 AKM.loop (α:=α) (fun x=>m x) (fun x=>P x) (fun x=>vs x) (fun x=>Ms x) ts τ a he hp fun a h ih=>step a h fun a' h1 h2=>ih a' h1 h2
theorem AKM.loop2 {α β:Type} {L:Lib} {k:List It} {cd:ACode} {tm:Tm} {M:Mem} {Q:Tm→Mem→Prop} (m:α→β→Nat) (P:α→β→Prop) (vs:α→β→Tm) (Ms:α→β→Mem) (ts:List Nat) (τ:List (Nat × Nat)) (a:α) (b:β)
  (he:EqX τ tm M (vs a b++tdel ts tm) (Ms a b++M)) (hp:P a b)
  (step : ∀ a b,P a b→(∀ a' b',m a' b'<m a b→P a' b'→AKM L (.lp cd::k) (vs a' b'++tdel ts tm) (Ms a' b'++M) Q)→AKM L (.code cd :: .lp cd::k) (vs a b++tdel ts tm) (Ms a b++M) Q):AKM L (.lp cd::k) tm M Q :=
 AKM.loop (α:=α × β) (fun x=>m x.1 x.2) (fun x=>P x.1 x.2) (fun x=>vs x.1 x.2) (fun x=>Ms x.1 x.2) ts τ (a,b) he hp fun ⟨a,b⟩ h ih=>step a b h fun a' b' h1 h2=>ih (a',b') h1 h2
theorem AKM.loop3 {α β γ:Type} {L:Lib} {k:List It} {cd:ACode} {tm:Tm} {M:Mem} {Q:Tm→Mem→Prop} (m:α→β→γ→Nat) (P:α→β→γ→Prop) (vs:α→β→γ→Tm) (Ms:α→β→γ→Mem) (ts:List Nat) (τ:List (Nat × Nat)) (a:α) (b:β) (c:γ)
  (he:EqX τ tm M (vs a b c++tdel ts tm) (Ms a b c++M)) (hp:P a b c)
  (step : ∀ a b c,P a b c→(∀ a' b' c',m a' b' c'<m a b c→P a' b' c'→AKM L (.lp cd::k) (vs a' b' c'++tdel ts tm) (Ms a' b' c'++M) Q)→AKM L (.code cd :: .lp cd::k) (vs a b c++tdel ts tm) (Ms a b c++M) Q):AKM L (.lp cd::k) tm M Q :=
 AKM.loop (α:=α × β × γ) (fun x=>m x.1 x.2.1 x.2.2) (fun x=>P x.1 x.2.1 x.2.2) (fun x=>vs x.1 x.2.1 x.2.2) (fun x=>Ms x.1 x.2.1 x.2.2) ts τ (a,b,c) he hp fun ⟨a,b,c⟩ h ih=>step a b c h fun a' b' c' h1 h2=>ih (a',b',c') h1 h2
theorem AKM.loop5 {α β γ δ ε:Type} {L:Lib} {k:List It} {cd:ACode} {tm:Tm} {M:Mem} {Q:Tm→Mem→Prop} (m:α→β→γ→δ→ε→Nat) (P:α→β→γ→δ→ε→Prop) (vs:α→β→γ→δ→ε→Tm) (Ms:α→β→γ→δ→ε→Mem) (ts:List Nat) (τ:List (Nat × Nat)) (a:α) (b:β) (c:γ) (d:δ) (e:ε)
  (he:EqX τ tm M (vs a b c d e++tdel ts tm) (Ms a b c d e++M)) (hp:P a b c d e)
  (step : ∀ a b c d e,P a b c d e→(∀ a' b' c' d' e',m a' b' c' d' e'<m a b c d e→P a' b' c' d' e'→AKM L (.lp cd::k) (vs a' b' c' d' e'++tdel ts tm) (Ms a' b' c' d' e'++M) Q)→AKM L (.code cd :: .lp cd::k) (vs a b c d e++tdel ts tm) (Ms a b c d e++M) Q):AKM L (.lp cd::k) tm M Q :=
 AKM.loop (α:=α × β × γ × δ × ε) (fun x=>m x.1 x.2.1 x.2.2.1 x.2.2.2.1 x.2.2.2.2) (fun x=>P x.1 x.2.1 x.2.2.1 x.2.2.2.1 x.2.2.2.2) (fun x=>vs x.1 x.2.1 x.2.2.1 x.2.2.2.1 x.2.2.2.2) (fun x=>Ms x.1 x.2.1 x.2.2.1 x.2.2.2.1 x.2.2.2.2) ts τ (a,b,c,d,e) he hp fun ⟨a,b,c,d,e⟩ h ih=>step a b c d e h fun a' b' c' d' e' h1 h2=>ih (a',b',c',d',e') h1 h2
theorem AKM.lq1 {α:Type} {L:Lib} {k:List It} {cd:ACode} {tm:Tm} {M:Mem} {Q:Tm→Mem→Prop} (m:α→Nat) (P:α→Prop) (vs:α→Tm) (Ms:α→Mem) (a:α)
  (hp:P a)
  (step : ∀ a,P a→(∀ a',m a'<m a→P a'→AKM L (.lp cd::k) (vs a'++tdel [] tm) (Ms a'++M) Q)→AKM L (.code cd :: .lp cd::k) (vs a++tdel [] tm) (Ms a++M) Q)
  (he:EqX [] tm M (vs a++tdel [] tm) (Ms a++M):=by (conv=>whnf);exact ⟨rfl,rfl,rfl⟩):AKM L (.lp cd::k) tm M Q :=
 AKM.loop1 m P vs Ms [] [] a he hp step
theorem AKM.lq2 {α β:Type} {L:Lib} {k:List It} {cd:ACode} {tm:Tm} {M:Mem} {Q:Tm→Mem→Prop} (m:α→β→Nat) (P:α→β→Prop) (vs:α→β→Tm) (Ms:α→β→Mem) (a:α) (b:β)
  (hp:P a b)
  (step : ∀ a b,P a b→(∀ a' b',m a' b'<m a b→P a' b'→AKM L (.lp cd::k) (vs a' b'++tdel [] tm) (Ms a' b'++M) Q)→AKM L (.code cd :: .lp cd::k) (vs a b++tdel [] tm) (Ms a b++M) Q)
  (he:EqX [] tm M (vs a b++tdel [] tm) (Ms a b++M):=by (conv=>whnf);exact ⟨rfl,rfl,rfl⟩):AKM L (.lp cd::k) tm M Q :=
 AKM.loop2 m P vs Ms [] [] a b he hp step
theorem AKM.lq3 {α β γ:Type} {L:Lib} {k:List It} {cd:ACode} {tm:Tm} {M:Mem} {Q:Tm→Mem→Prop} (m:α→β→γ→Nat) (P:α→β→γ→Prop) (vs:α→β→γ→Tm) (Ms:α→β→γ→Mem) (a:α) (b:β) (c:γ)
  (hp:P a b c)
  (step : ∀ a b c,P a b c→(∀ a' b' c',m a' b' c'<m a b c→P a' b' c'→AKM L (.lp cd::k) (vs a' b' c'++tdel [] tm) (Ms a' b' c'++M) Q)→AKM L (.code cd :: .lp cd::k) (vs a b c++tdel [] tm) (Ms a b c++M) Q)
  (he:EqX [] tm M (vs a b c++tdel [] tm) (Ms a b c++M):=by (conv=>whnf);exact ⟨rfl,rfl,rfl⟩):AKM L (.lp cd::k) tm M Q :=
 AKM.loop3 m P vs Ms [] [] a b c he hp step
theorem AKM.x {L:Lib} {Q:Tm→Mem→Prop} {c:ACode} {k:List It} {tm:Tm} {M:Mem} (h:fT (cnm 0 tm) fun tm=>mcanK M fun M=>XK L Q 500 (.code c::k) tm M):AKM L (.code c::k) tm M Q:=by
 rw[fT_eq,mcanK_eq]at h;exact AKM.can (XK_sound h)
theorem AKM.y {L:Lib} {Q:Tm→Mem→Prop} {i:Nat} {k:List It} {tm:Tm} {M:Mem} (h:XK L Q 500 (.blk i::k) tm M):AKM L (.blk i::k) tm M Q:=XK_sound h
end Go.Eng

namespace Go.Eng
open F
attribute [local irreducible] AKM CmpP Req OpP UnP RdP LdR StR MkR AppR AppN CpyR RowP SnR Bds SlS CallP CalP FinP pw LdM GetM SetM PutM MkM AppM SnM FlP CallR MpG MpS ApfP SrtP
set_option maxHeartbeats 1000000
variable {L:Lib}
def InI (n:Int):Prop := -9223372036854775808≤n∧n≤9223372036854775807
structure Wd where
 b:Int
 f:Int
 r:Int
 o:Int
abbrev encW (w:Wd):List AV:=[.int .i64 w.b,.int .i64 w.f,.int .i64 w.r,.int .i64 w.o]
theorem ev_fixed_mode (I:FixedLib L) (r:Int):Ev L 1 [.int .i64 r] (.bool (decide (1≤r∧r≤3))):=by
 refine Ev.x I.fixed_mode rfl rfl ?_;(repeat' ((first|(apply CmpP.go<;>intro hc<;>try omega)|apply AKM.x)<;>conv=>whnf))
 all_goals (first|exact FinP.dt (by omega)|exact FinP.df (by omega))
theorem ev_ref21_In (I:FixedLib L) (v a b:Int):Ev L 10 [.int .i64 v,.int .i64 a,.int .i64 b] (.bool (decide (a≤v∧v≤b))):=by
 refine Ev.x I.ref21_In rfl rfl ?_;(repeat' ((first|(apply CmpP.go<;>intro hc<;>try omega)|apply AKM.x)<;>conv=>whnf))
 all_goals (first|exact FinP.dt (by omega)|exact FinP.df (by omega))
def WV (w:Wd):Prop:=4≤w.b∧w.b≤24∧0≤w.f∧w.f<w.b∧1≤w.r∧w.r≤3∧1≤w.o∧w.o≤2
instance (w : Wd) : Decidable (WV w) := by unfold WV; infer_instance
variable (w:Wd)
theorem ev_fixed_Valid (I:FixedLib L):Ev L 2 [.agg (encW w)] (.bool (decide (WV w))):=by
 refine Ev.x I.fixed_Valid rfl rfl ?_;(repeat' ((first|(apply CmpP.go<;>intro hc<;>try omega)|apply AKM.x|refine CallP.b (ev_fixed_mode I _) (fun hf => ?_) (fun hf => ?_))<;>conv=>whnf))
 all_goals (unfold WV;first|exact FinP.dt (by omega)|exact FinP.df (by omega))
theorem ev_ref21_Valid (I:FixedLib L):Ev L 11 [.agg (encW w)] (.bool (decide (WV w))):=by
 refine Ev.x I.ref21_Valid rfl rfl ?_;(repeat' ((first|(apply OpP.sub;omega)|apply AKM.x|refine CallP.b (ev_ref21_In I _ _ _) (fun hf => ?_) (fun hf => ?_))<;>conv=>whnf))
 all_goals (unfold WV;first|exact FinP.dt (by omega)|exact FinP.df (by omega))
def lowS:Int:=if WV w then -pw (w.b-1) else 0
def highS:Int:=if WV w then pw (w.b-1)-1 else 0
theorem ev_fixed_Low (I:FixedLib L):Ev L 3 [.agg (encW w)] (.int .i64 (lowS w)):=by
 refine Ev.x I.fixed_Low rfl rfl ?_;by_cases hv:WV w;all_goals (
  have hv':=hv;unfold WV at hv';(repeat' ((first|(apply OpP.sub;omega)|(refine OpP.shl1 ?_ (fun _ _ => ?_);omega)|apply OpP.wsub|(apply UnP.neg;omega)|apply AKM.x|refine CallP.b (ev_fixed_Valid _ I) (fun hf => ?_) (fun hf => ?_))<;>conv=>whnf))
  all_goals (first|contradiction|exact FinP.i (by rw[lowS,if_pos hv])|exact FinP.i (by rw[lowS,if_neg hv])))
theorem ev_fixed_High (I:FixedLib L):Ev L 4 [.agg (encW w)] (.int .i64 (highS w)):=by
 refine Ev.x I.fixed_High rfl rfl ?_;by_cases hv:WV w;all_goals (
  have hv':=hv;unfold WV at hv';(repeat' ((first|(apply OpP.sub;omega)|(refine OpP.shl1 ?_ (fun _ _ => ?_);omega)|apply OpP.wsub|apply AKM.x|refine CallP.b (ev_fixed_Valid _ I) (fun hf => ?_) (fun hf => ?_))<;>conv=>whnf))
  all_goals (first|contradiction|exact FinP.i (by rw[highS,if_pos hv])|exact FinP.i (by rw[highS,if_neg hv])))
theorem ev_ref21_Low (I:FixedLib L):Ev L 12 [.agg (encW w)] (.int .i64 (lowS w)):=by
 refine Ev.x I.ref21_Low rfl rfl ?_;by_cases hv:WV w;all_goals (
  have hv':=hv;unfold WV at hv';(repeat' ((first|(apply OpP.sub;omega)|(refine OpP.shl1 ?_ (fun _ _ => ?_);omega)|apply OpP.wsub|(apply UnP.neg;omega)|(apply ConvP.u64;omega)|apply AKM.x|refine CallP.b (ev_ref21_Valid _ I) (fun hf => ?_) (fun hf => ?_))<;>conv=>whnf))
  all_goals (first|contradiction|exact FinP.i (by rw[lowS,if_pos hv])|exact FinP.i (by rw[lowS,if_neg hv])))
theorem ev_ref21_High (I:FixedLib L):Ev L 13 [.agg (encW w)] (.int .i64 (highS w)):=by
 refine Ev.x I.ref21_High rfl rfl ?_;by_cases hv:WV w;all_goals (
  have hv':=hv;unfold WV at hv';(repeat' ((first|(apply OpP.sub;omega)|(refine OpP.shl1 ?_ (fun _ _ => ?_);omega)|apply OpP.wsub|(apply ConvP.u64;omega)|apply AKM.x|refine CallP.b (ev_ref21_Valid _ I) (fun hf => ?_) (fun hf => ?_))<;>conv=>whnf))
  all_goals (first|contradiction|exact FinP.i (by rw[highS,if_pos hv])|exact FinP.i (by rw[highS,if_neg hv])))
def FT (v:Int):Prop:=WV w∧lowS w≤v∧v≤highS w
instance (v : Int) : Decidable (FT w v) := by unfold FT; infer_instance
theorem ev_fixed_Fits (I:FixedLib L) (v:Int):Ev L 5 [.agg (encW w),.int .i64 v] (.bool (decide (FT w v))):=by
 refine Ev.x I.fixed_Fits rfl rfl ?_;(repeat' ((first|(apply CmpP.go<;>intro hc<;>try omega)|apply AKM.x|refine CallP.b (ev_fixed_Valid _ I) (fun hf => ?_) (fun hf => ?_)|refine CallP.go (ev_fixed_Low _ I) ?_|refine CallP.go (ev_fixed_High _ I) ?_)<;>conv=>whnf))
 all_goals (unfold FT;first|exact FinP.dt ⟨by assumption,by assumption,by assumption⟩|exact FinP.df (by rintro ⟨h1,h2,h3⟩;first|contradiction|omega))
theorem ev_ref21_Fits (I:FixedLib L) (v:Int):Ev L 14 [.agg (encW w),.int .i64 v] (.bool (decide (FT w v))):=by
 refine Ev.x I.ref21_Fits rfl rfl ?_;(repeat' ((first|apply AKM.x|refine CallP.b (ev_ref21_Valid _ I) (fun hf => ?_) (fun hf => ?_)|refine CallP.b (ev_ref21_In I _ _ _) (fun hf => ?_) (fun hf => ?_)|refine CallP.go (ev_ref21_Low _ I) ?_|refine CallP.go (ev_ref21_High _ I) ?_)<;>conv=>whnf))
 all_goals (unfold FT;first|exact FinP.dt ⟨by assumption,by assumption⟩|exact FinP.df (by rintro ⟨h1,h2⟩;contradiction))
def wrapS (n v:Int):Int:=if 1≤n∧n≤62 then (if pw (n-1)≤v%pw n then v%pw n-pw n else v%pw n) else 0
theorem ev_fixed_Wrap (I:FixedLib L) (n v:Int):Ev L 7 [.int .i64 n,.int .i64 v] (.int .i64 (wrapS n v)):=by
 refine Ev.x I.fixed_Wrap rfl rfl ?_;(repeat' ((first|(apply CmpP.go<;>intro hc<;>try omega)|(apply OpP.sub;omega)|(refine OpP.shl1 ?_ (fun _ _ => ?_);omega)|(refine OpP.andm ?_ (fun _ _ => ?_);omega)|apply AKM.x)<;>conv=>whnf))
 all_goals (refine FinP.i ?_;unfold wrapS;first|rw[if_neg (by omega)]|rw[if_pos (by omega),if_pos (by omega)]|rw[if_pos (by omega),if_neg (by omega)])
def satS (v:Int):Int:=min (max v (lowS w)) (highS w)
theorem ev_fixed_Saturate (I:FixedLib L) (v:Int):Ev L 8 [.agg (encW w),.int .i64 v] (.int .i64 (satS w v)):=by
 refine Ev.x I.fixed_Saturate rfl rfl ?_;(repeat' ((first|(apply CmpP.go<;>intro hc<;>try omega)|apply AKM.x|refine CallP.go (ev_fixed_Low _ I) ?_|refine CallP.go (ev_fixed_High _ I) ?_)<;>conv=>whnf))
 all_goals (refine FinP.i ?_;unfold satS;omega)
def redS (v:Int):Int:=if WV w then (if w.o=2 then wrapS w.b v else satS w v) else 0
theorem ev_fixed_Reduce (I:FixedLib L) (v:Int):Ev L 9 [.agg (encW w),.int .i64 v] (.int .i64 (redS w v)):=by
 refine Ev.x I.fixed_Reduce rfl rfl ?_;(repeat' ((first|(apply CmpP.go<;>intro hc<;>try omega)|apply AKM.x|refine CallP.b (ev_fixed_Valid _ I) (fun hf => ?_) (fun hf => ?_)|refine CallP.go (ev_fixed_Wrap I _ _) ?_|refine CallP.go (ev_fixed_Saturate _ I _) ?_)<;>conv=>whnf))
 all_goals (refine FinP.i ?_;unfold redS;first|rw[if_neg (by assumption)]|rw[if_pos (by assumption),if_pos (by assumption)]|rw[if_pos (by assumption),if_neg (by assumption)])
def shiftS (v n r:Int):Int :=
 if 0≤n∧n≤62∧1≤r∧r≤3 then
  (if n=0 then v
   else if (r=2∧pw (n-1)≤v%pw n)∨(r=3∧v<0∧v%pw n≠0) then v/pw n+1 else v/pw n)
 else 0
theorem ev_fixed_Shift (I:FixedLib L) (v n r:Int) (hv:InI v):Ev L 6 [.int .i64 v,.int .i64 n,.int .i64 r] (.int .i64 (shiftS v n r)):=by
 refine Ev.x I.fixed_Shift rfl rfl ?_;unfold InI at hv;by_cases hn:1≤n∧n≤62
 ·have h2:=pw_succ hn.1
  have h3:=pw_pos (n-1);have h4:=ediv_half (m:=pw n) (by omega) hv;have h5:=half_bit (v:=v) h3;rw[←h2]at h5;by_cases hr:1≤r∧r≤3
  ·rcases (by omega:r=1∨r=2∨r=3) with rfl|rfl|rfl
   all_goals (
    (repeat' ((first|(apply CmpP.go<;>intro hc<;>try omega)|(apply Req.go;omega)|(apply OpP.add;omega)|(apply OpP.sub;omega)|(apply OpP.shr;omega)|(refine OpP.shl1 ?_ (fun _ _ => ?_);omega)|(refine OpP.andm ?_ (fun _ _ => ?_);omega)|apply OpP.and1|apply AKM.x|refine CallP.b (ev_fixed_mode I _) (fun hf => ?_) (fun hf => ?_))<;>conv=>whnf))
    all_goals (first|contradiction|(exfalso;omega)|skip))
   all_goals (
    refine FinP.i ?_;unfold shiftS;rw[if_pos (by omega),if_neg (by omega)];first
     | (rw[if_pos (by omega)];done)
     | (rw[if_neg (by omega)];done)
     |(by_cases hc:pw (n-1)≤v%pw n
       ·rw[if_pos hc]at h5;rw[if_pos (by omega),h5]
       ·rw[if_neg hc]at h5;rw[if_neg (by omega),h5];omega))
  ·(repeat' ((first|(apply CmpP.go<;>intro hc<;>try omega)|apply AKM.x|refine CallP.b (ev_fixed_mode I _) (fun hf => ?_) (fun hf => ?_))<;>conv=>whnf))
   all_goals (first|contradiction|(exfalso;omega)|skip)
   all_goals (refine FinP.i ?_;unfold shiftS;rw[if_neg (by omega)])
 ·by_cases hz:n=0
  ·subst hz
   (repeat' ((first|(apply CmpP.go<;>intro hc<;>try omega)|apply AKM.x|refine CallP.b (ev_fixed_mode I _) (fun hf => ?_) (fun hf => ?_))<;>conv=>whnf))
   all_goals (first|contradiction|(exfalso;omega)|skip)
   all_goals (refine FinP.i ?_;unfold shiftS;first|rw[if_pos (by omega),if_pos rfl]|rw[if_neg (by omega)])
  ·(repeat' ((first|(apply CmpP.go<;>intro hc<;>try omega)|apply AKM.x)<;>conv=>whnf))
   all_goals (first|contradiction|(exfalso;omega)|skip)
   all_goals (refine FinP.i ?_;unfold shiftS;rw[if_neg (by omega)])
end Go.Eng

namespace Go.Eng
open F
attribute [local irreducible] AKM CmpP Req OpP UnP RdP LdR StR MkR AppR AppN CpyR RowP SnR Bds SlS CallP CalP FinP pw LdM GetM SetM PutM MkM AppM SnM FlP CallR MpG MpS ApfP SrtP
set_option maxHeartbeats 1000000
variable {L:Lib}
theorem drop_cons {α:Type} {l:List α} {i:Nat} {e:α} (h:l[i]? = some e):l.drop i=e::l.drop (i+1):=by
 obtain ⟨h1,h2⟩:=List.getElem?_eq_some_iff.1 h;rw[List.drop_eq_getElem_cons h1,h2]
theorem drop_len {α:Type} {l:List α} {i:Nat} (h:l.length≤i):l.drop i=[]:=List.drop_eq_nil_of_le h
theorem ev_ref21_SameInts (I:FixedLib L) (xs ys:List Int) (q1 q2:Bool) (hx:xs.length<9223372036854775808) (hy:ys.length<9223372036854775808):Ev L 20 [.sl q1 (xs.map encInt),.sl q2 (ys.map encInt)] (.bool (decide (xs=ys))):=by
 refine Ev.x I.ref21_SameInts rfl rfl ?_;(repeat' ((first|(apply CmpP.go<;>intro hc<;>try omega)|apply LenP.go|apply AKM.x)<;>conv=>whnf))
 ·exact FinP.df (by intro e;subst e;omega)
 ·have h:=hc
  refine AKM.lq1 (fun i=>xs.length-i) (fun (i:Nat)=>i≤xs.length∧(xs=ys↔xs.drop i=ys.drop i)) (fun i=>[(5,.int .i64 i)]) (fun _=>[]) 0 ⟨by omega,by simp⟩ ?_;intro i ⟨p1,p2⟩ ih;(repeat' ((first|(apply CmpP.go<;>intro hc<;>try omega)|(apply OpP.add;omega)|apply LenP.go|(refine RdP.nat ?_ (fun _=>rfl) (fun e he => ?_);omega)|apply AKM.x)<;>conv=>whnf))
  ·rename_i e1 h1
   refine FinP.df ?_;rw[p2,drop_cons h1,drop_cons he];intro e;exact hc (List.cons.inj e).1
  ·rename_i e1 h1
   refine AKM.back [] (by (conv=>whnf);exact ⟨rfl,rfl,rfl⟩) (ih (i+1) (by omega) ⟨by omega,?_⟩);rw[p2,drop_cons h1,drop_cons he,hc];simp
  ·refine FinP.dt ?_
   rw[p2,drop_len (by omega),drop_len (by omega)]
structure Nd where
 q:Bool
 ts:List (Int × Int)
abbrev encT (t:Int × Int):List AV:=[.int .i64 t.1,.int .i64 t.2]
abbrev encNd (n:Nd):List AV:=[.sl n.q (n.ts.map encT)]
structure Nt where
 d:Wd
 c:Wd
 s:Int
 qn:Bool
 nodes:List Nd
 qx:Bool
 next:List Int
 out:Int
abbrev encN (n:Nt):List AV:=[.int .i64 n.d.b,.int .i64 n.d.f,.int .i64 n.d.r,.int .i64 n.d.o,.int .i64 n.c.b,.int .i64 n.c.f,.int .i64 n.c.r,.int .i64 n.c.o,.int .i64 n.s,.sl n.qn (n.nodes.map encNd),.sl n.qx (n.next.map encInt),.int .i64 n.out]
def termB (c:Wd) (s:Int) (k:Nat) (t:Int × Int):Bool:=decide (0≤t.1∧t.1≤s+k∧(t.2=pw c.f∨FT c t.2))
def nodesB (c:Wd) (s:Int):Nat→List Nd→Bool
 | _,[]=>true
 | k,n::l=>(decide (n.ts.length≤64)&&n.ts.all (termB c s k))&&nodesB c s (k+1) l
def nextB (m:Int) (l:List Int):Bool:=l.all fun k=>decide (0≤k∧k≤m)
def netB (n:Nt):Bool:=decide (WV n.d)&&decide (WV n.c)&&decide (0≤n.s∧n.s≤64∧n.nodes.length≤64∧(n.next.length:Int)=n.s)&&nodesB n.c n.s 0 n.nodes&&nextB (n.s+n.nodes.length) n.next&&decide (0≤n.out∧n.out≤n.s+n.nodes.length)
variable (n:Nt)
theorem netB_iff:netB n=true↔WV n.d∧WV n.c∧(0≤n.s∧n.s≤64∧n.nodes.length≤64∧(n.next.length:Int)=n.s)∧nodesB n.c n.s 0 n.nodes=true∧nextB (n.s+n.nodes.length) n.next=true∧0≤n.out∧n.out≤n.s+n.nodes.length:=by
 simp only[netB,Bool.and_eq_true,decide_eq_true_eq,and_assoc]
theorem eqF {x:Bool} (h : ¬ x=true):false=x:=by simp at h;rw[h]
theorem eqT {x:Bool} (h:x=true):true=x:=by rw[h]
theorem ev_network_Valid (I:FixedLib L) (J:NetLib L):Ev L 21 [.agg (encN n)] (.bool (netB n)):=by
 refine Ev.x J.network_Valid rfl rfl ?_;(repeat' ((first|(apply CmpP.go<;>intro hc<;>try omega)|apply LenP.go|apply AKM.x|refine CallP.b (ev_fixed_Valid ⟨_,_,_,_⟩ I) (fun hf => ?_) (fun hf => ?_))<;>conv=>whnf))
 all_goals try (
  refine FinP.b (eqF ?_);rw[netB_iff];rintro ⟨x1,x2,x3,_⟩
  first|contradiction|omega)
 rename_i h1 h3 h4 h5;have h2:=hf;have h6:=hc;have h1:WV n.d:=h1;have h2:WV n.c:=h2;have hw:=h2;unfold WV at hw;refine AKM.lq1 (fun i=>n.nodes.length-i) (fun (i:Nat)=>i≤n.nodes.length∧nodesB n.c n.s i (n.nodes.drop i)=nodesB n.c n.s 0 n.nodes) (fun i=>[(45,.int .i64 i)]) (fun _=>[]) 0 ⟨by omega,rfl⟩ ?_;intro i ⟨p1,p2⟩ ih;(repeat' ((first|(apply CmpP.go<;>intro hc<;>try omega)|(apply OpP.add;omega)|apply LenP.go|(refine RdP.nat ?_ (fun _=>rfl) (fun e he => ?_);omega)|apply AKM.x)<;>conv=>whnf))
 ·rename Nd=>nd
  have hnd:=he;rw[drop_cons hnd,nodesB,decide_eq_false (by omega)]at p2;refine FinP.b (eqF ?_);rw[netB_iff,←p2];simp
 ·rename Nd=>nd
  have hnd:=he;rw[drop_cons hnd,nodesB,decide_eq_true (by omega),Bool.true_and]at p2;refine AKM.lq1 (fun j=>nd.ts.length-j) (fun (j:Nat)=>j≤nd.ts.length∧(nd.ts.drop j).all (termB n.c n.s i)=nd.ts.all (termB n.c n.s i)) (fun j=>[(57,.int .i64 j)]) (fun _=>[]) 0 ⟨by omega,rfl⟩ ?_;intro j ⟨r1,r2⟩ ih2;(repeat' ((first|(apply CmpP.go<;>intro hc<;>try omega)|(apply OpP.add;omega)|(refine OpP.shl1 ?_ (fun _ _ => ?_);omega)|(refine RdP.nat ?_ (fun _=>rfl) (fun e he => ?_);omega)|apply AKM.x|refine CallP.b (ev_fixed_Fits ⟨_,_,_,_⟩ I _) (fun hf => ?_) (fun hf => ?_))<;>conv=>whnf))
  all_goals try (
   have hb:termB n.c n.s i e=false:=by
    simp only[termB,decide_eq_false_iff_not];intro hh;first|omega|exact absurd hh.2.2 (fun hx=>hx.elim (fun hx=>by omega) (fun hx=>by contradiction))
   rw[drop_cons he,List.all_cons,hb,Bool.false_and]at r2;rw[←r2,Bool.false_and]at p2;refine FinP.b (eqF ?_);rw[netB_iff,←p2];simp;done)
  all_goals try (
   have hb:termB n.c n.s i e=true:=by
    simp only[termB,decide_eq_true_eq];exact ⟨by omega,by omega,by first|exact Or.inr (by assumption)|exact Or.inl (by assumption)⟩
   rw[drop_cons he,List.all_cons,hb,Bool.true_and]at r2;exact AKM.back [] (by (conv=>whnf);exact ⟨rfl,rfl,rfl⟩) (ih2 (j+1) (by omega) ⟨by omega,r2⟩))
  rw[drop_len (by omega)]at r2;rw[←r2,List.all_nil,Bool.true_and]at p2;exact AKM.bk [] (ih (i+1) (by omega) ⟨by omega,p2⟩)
 ·rw[drop_len (by omega),nodesB]at p2
  refine AKM.lq1 (fun i=>n.next.length-i) (fun (i:Nat)=>i≤n.next.length∧nextB (n.s+n.nodes.length) (n.next.drop i)=nextB (n.s+n.nodes.length) n.next) (fun i=>[(99,.int .i64 i)]) (fun _=>[]) 0 ⟨by omega,rfl⟩ ?_;intro k ⟨r1,r2⟩ ih3;(repeat' ((first|(apply CmpP.go<;>intro hc<;>try omega)|(apply OpP.add;omega)|(refine RdP.nat ?_ (fun _=>rfl) (fun e he => ?_);omega)|apply AKM.x)<;>conv=>whnf))
  all_goals try (
   have hb:decide (0≤e∧e≤n.s+n.nodes.length)=false:=by (rw[decide_eq_false_iff_not];omega)
   rw[drop_cons he,nextB,List.all_cons,hb,Bool.false_and]at r2;refine FinP.b (eqF ?_);rw[netB_iff,←r2];simp;done)
  all_goals try (
   have hb:decide (0≤e∧e≤n.s+n.nodes.length)=true:=by (rw[decide_eq_true_eq];omega)
   rw[drop_cons he,nextB,List.all_cons,hb,Bool.true_and]at r2;exact AKM.back [] (by (conv=>whnf);exact ⟨rfl,rfl,rfl⟩) (ih3 (k+1) (by omega) ⟨by omega,r2⟩))
  all_goals (
   rw[drop_len (by omega)]at r2;first
    | (refine FinP.b (eqT ?_);rw[netB_iff];exact ⟨h1,h2,by omega,p2.symm,r2.symm,by omega,by omega⟩)
    | (refine FinP.b (eqF ?_);rw[netB_iff];omega))
end Go.Eng

namespace Go.Eng
open F
attribute [local irreducible] AKM CmpP Req OpP UnP RdP LdR StR MkR AppR AppN CpyR RowP SnR Bds SlS CallP CalP FinP pw LdM GetM SetM PutM MkM AppM SnM FlP CallR MpG MpS ApfP SrtP
variable {L:Lib}
set_option maxHeartbeats 1000000
theorem wrap_InI (n:Int):InI (IntKind.i64.wrap n):=by
 unfold InI;rw[IntKind.wrap_i64];omega
def withS (v m:Int):Int:=if m<1 then 0 else v%m
theorem ev_world_Within (W:WorldLib L) (v m:Int) (hv:InI v) (hm:m≤9223372036854775807):Ev L 34 [.int .i64 v,.int .i64 m] (.int .i64 (withS v m)):=by
 unfold InI at hv;refine Ev.x W.world_Within rfl rfl ?_;(repeat' ((first|(apply CmpP.go<;>intro hc<;>try omega)|(apply OpP.add;omega)|(refine OpP.rem ?_ (fun _ _ _ => ?_) (fun _ _ _ _ => ?_);omega;all_goals try omega)|apply AKM.x)<;>conv=>whnf))
 all_goals (refine FinP.i ?_;unfold withS;first|rw[if_pos (by omega)]|rw[if_neg (by omega)])
 all_goals omega
def atS (l:List Int) (i:Int):Int:=if 0≤i∧i<l.length then l.getD i.toNat 0 else 0
theorem ev_world_At (W:WorldLib L) (l:List Int) (q:Bool) (i:Int):Ev L 35 [.sl q (l.map encInt),.int .i64 i] (.int .i64 (atS l i)):=by
 refine Ev.x W.world_At rfl rfl ?_;(repeat' ((first|(apply CmpP.go<;>intro hc<;>try omega)|apply LenP.go|(refine RdP.go ?_ (fun _=>rfl) (fun e he => ?_);omega)|apply AKM.x)<;>conv=>whnf))
 all_goals (refine FinP.i ?_;unfold atS;first|rw[if_neg (by omega)]|(rw[if_pos (by omega),List.getD_eq_getElem?_getD,he];rfl))
theorem with_range {v m:Int} (h:1≤m):0≤withS v m∧withS v m<m:=by
 unfold withS;rw[if_neg (by omega)];exact ⟨Int.emod_nonneg _ (by omega),Int.emod_lt_of_pos _ (by omega)⟩
def wordS (k least most above:Int):Wd :=
 let K:=withS k 1099511627776
 let b:=least+K%(most-least+1)
 let K1:=K/(most-least+1)
 ⟨b,max (b-1-above-K1%2) 0,1+K1/2%3,1+K1/2/3%2⟩
theorem ev_world_Word (W:WorldLib L) (k least most above:Int) (hk:InI k) (h1:1≤least∧least≤most∧most≤1000∧0≤above∧above≤1000):Ev L 36 [.int .i64 k,.int .i64 least,.int .i64 most,.int .i64 above] (.agg (encW (wordS k least most above))):=by
 refine Ev.x W.world_Word rfl rfl ?_;have hr:=with_range (v:=k) (m:=1099511627776) (by omega);have h3:0≤withS k 1099511627776/(most-least+1):=Int.ediv_nonneg hr.1 (by omega);have h4:withS k 1099511627776/(most-least+1)≤withS k 1099511627776:=Int.ediv_le_self _ hr.1;(repeat' ((first|(apply CmpP.go<;>intro hc<;>try omega)|(apply OpP.add;omega)|(apply OpP.sub;omega)|(refine OpP.rem ?_ (fun _ _ _ => ?_) (fun _ _ _ _ => ?_);omega;all_goals try omega)|(refine OpP.quo ?_ ?_ (fun _ => ?_) (fun _ _ => ?_);omega;omega;all_goals try omega)|apply AKM.x|refine CallP.go (ev_world_Within W _ _ hk (by omega)) ?_)<;>conv=>whnf))
 all_goals (
  refine FinP.go ?_ (by simp [Clean,CleanL]);simp only[wordS,AV.agg.injEq,List.cons.injEq,AV.int.injEq,true_and,and_true];omega)
theorem word_ok {k least most above:Int} (h:4≤least∧least≤most∧most≤24∧0≤above):WV (wordS k least most above)∧least≤(wordS k least most above).b∧(wordS k least most above).b≤most:=by
 have hr:=with_range (v:=k) (m:=1099511627776) (by omega);have h1:0≤withS k 1099511627776%(most-least+1):=Int.emod_nonneg _ (by omega);have h2:withS k 1099511627776%(most-least+1)<most-least+1:=Int.emod_lt_of_pos _ (by omega);simp only[WV,wordS];generalize withS k 1099511627776/(most-least+1)=d;omega
theorem ev_world_Unit (W:WorldLib L) (w:Wd) (h:WV w):Ev L 41 [.agg (encW w)] (.int .i64 (pw w.f)):=by
 unfold WV at h;refine Ev.x W.world_Unit rfl rfl ?_;(repeat' ((first|(refine OpP.shl1 ?_ (fun _ _ => ?_);omega)|(apply ConvP.u64;omega)|apply AKM.x)<;>conv=>whnf))
 exact FinP.i rfl
theorem low_high {w:Wd} (h:WV w):lowS w = -pw (w.b-1)∧highS w=pw (w.b-1)-1∧1≤pw (w.b-1)∧pw (w.b-1)≤8388608:=by
 have h':=h;unfold WV at h';refine ⟨by rw[lowS,if_pos h],by rw[highS,if_pos h],pw_pos _,?_⟩;have:=pw_le (n:=w.b-1) (m:=23) (by omega)
 have e:pw 23=8388608:=by unfold pw;rfl
 omega
theorem range_snoc {α:Type} (f:Nat→α) (n:Nat):(List.range (n+1)).map f=(List.range n).map f++[f n]:=by rw[List.range_succ,List.map_append];rfl
def toB (b v:Int):Int:=withS (IntKind.i64.wrap (v+b)) (2*b+1)-b
def belowS (b:Int) (l:List Int) (n:Nat):List Int:=(List.range n).map fun i:Nat=>toB b (atS l (i:Int))
theorem ev_world_Below (W:WorldLib L) (b:Int) (hb:0≤b∧b≤1000000000000) (l:List Int) (q:Bool) (n:Nat) (hn:n≤1000000):Ev L 40 [.int .i64 b,.sl q (l.map encInt),.int .i64 n] (.sl false ((belowS b l n).map encInt)):=by
 refine Ev.x W.world_Below rfl rfl ?_;(repeat' (apply AKM.x<;>conv=>whnf))
 refine AKM.lq2 (fun i _=>n-i) (fun (i:Nat) (o:List Int)=>i≤n∧o.length=i∧o=belowS b l i) (fun i o=>[(7,.row 7 0 1 0 o.length),(8,.int .i64 i)]) (fun i o=>[(7,7,.rw 1 (o.map encInt))]) 0 [] ⟨by omega,rfl,rfl⟩ ?_;intro i o ⟨p1,p2,p3⟩ ih;have hr:=with_range (v:=IntKind.i64.wrap (atS l i+b)) (m:=2*b+1) (by omega);(repeat' ((first|(apply CmpP.go<;>intro hc<;>try omega)|(apply OpP.add;omega)|(apply OpP.sub;omega)|(apply OpP.mul;omega)|apply OpP.wadd|(refine SnR.all (fun _=>rfl) rfl ?_ ?_;(first|rfl|simp))|apply RowP.e1|apply AKM.x|refine CallP.go (ev_world_At W l _ _) ?_|refine CallP.go (ev_world_Within W _ _ (wrap_InI _) (by omega)) ?_)<;>conv=>whnf))
 ·refine AppR.one (enc:=encInt) _ rfl rfl rfl (by omega) (by omega) ?_
  (conv=>whnf)
  (repeat' ((first|(apply OpP.add;omega)|fail)<;>conv=>whnf))
  refine AKM.back [(7,27)] (by (conv=>whnf);exact ⟨rfl,rfl,rfl⟩) (ih (i+1) _ (by omega) ⟨by omega,by simp [p2],?_⟩);rw[belowS,range_snoc,p3];rfl
 ·have:i=n:=by omega
  subst this;exact FinP.go (by rw[p3]) (by simp [Clean,cl_ints])
end Go.Eng

namespace Go.Eng
open F
attribute [local irreducible] AKM CmpP Req OpP UnP RdP LdR StR MkR AppR AppN CpyR RowP SnR Bds SlS CallP CalP FinP pw LdM GetM SetM PutM MkM AppM SnM FlP CallR MpG MpS ApfP SrtP
variable {L:Lib} (n:Nt)
set_option maxHeartbeats 1000000
theorem ev_ref22_Valid (I:FixedLib L) (J:NetLib L):Ev L 27 [.agg (encN n)] (.bool (netB n)):=by
 refine Ev.x J.ref22_Valid rfl rfl ?_;(repeat' ((first|(apply CmpP.go<;>intro hc<;>try omega)|apply LenP.go|apply AKM.x|refine CallP.b (ev_ref21_Valid ⟨_,_,_,_⟩ I) (fun hf => ?_) (fun hf => ?_)|refine CallP.b (ev_ref21_In I _ _ _) (fun hf => ?_) (fun hf => ?_))<;>conv=>whnf))
 all_goals try (
  refine FinP.b (eqF ?_);rw[netB_iff];rintro ⟨x1,x2,x3,_⟩
  first|contradiction|omega)
 rename_i h1 h2 h5;have h3:=hf;have h6:=hc;have h1:WV n.d:=h1;have h2:WV n.c:=h2;have hw:=h2;unfold WV at hw;refine AKM.lq1 (fun i=>n.nodes.length-i) (fun (i:Nat)=>i≤n.nodes.length∧nodesB n.c n.s i (n.nodes.drop i)=nodesB n.c n.s 0 n.nodes) (fun i=>[(3,.int .i64 i)]) (fun _=>[]) 0 ⟨by omega,rfl⟩ ?_;intro i ⟨p1,p2⟩ ih;(repeat' ((first|(apply CmpP.go<;>intro hc<;>try omega)|(apply OpP.add;omega)|apply LenP.go|(refine RdP.nat ?_ (fun _=>rfl) (fun e he => ?_);omega)|apply AKM.x)<;>conv=>whnf))
 ·rename Nd=>nd
  have hnd:=he;rw[drop_cons hnd,nodesB,decide_eq_false (by omega)]at p2;refine FinP.b (eqF ?_);rw[netB_iff,←p2];simp
 ·rename Nd=>nd
  have hnd:=he;rw[drop_cons hnd,nodesB,decide_eq_true (by omega),Bool.true_and]at p2;refine AKM.lq1 (fun j=>nd.ts.length-j) (fun (j:Nat)=>j≤nd.ts.length∧(nd.ts.drop j).all (termB n.c n.s i)=nd.ts.all (termB n.c n.s i)) (fun j=>[(4,.int .i64 j)]) (fun _=>[]) 0 ⟨by omega,rfl⟩ ?_;intro j ⟨r1,r2⟩ ih2;(repeat' ((first|(apply CmpP.go<;>intro hc<;>try omega)|(apply OpP.add;omega)|(refine OpP.shl1 ?_ (fun _ _ => ?_);omega)|(apply ConvP.u64;omega)|apply LenP.go|(refine RdP.at (by assumption) ?_ rfl ?_;omega)|(refine RdP.nat ?_ (fun _=>rfl) (fun e he => ?_);omega)|apply AKM.x|refine CallP.b (ev_ref21_Fits ⟨_,_,_,_⟩ I _) (fun hf => ?_) (fun hf => ?_)|refine CallP.b (ev_ref21_In I _ _ _) (fun hf => ?_) (fun hf => ?_))<;>conv=>whnf))
  all_goals try (
   have hb:termB n.c n.s i e=false:=by
    simp only[termB,decide_eq_false_iff_not];intro hh;first|omega|exact absurd hh.2.2 (fun hx=>hx.elim (fun hx=>by omega) (fun hx=>by contradiction))
   rw[drop_cons he,List.all_cons,hb,Bool.false_and]at r2;rw[←r2,Bool.false_and]at p2;refine FinP.b (eqF ?_);rw[netB_iff,←p2];simp;done)
  all_goals try (
   have hb:termB n.c n.s i e=true:=by
    simp only[termB,decide_eq_true_eq];exact ⟨by omega,by omega,by first|exact Or.inr (by assumption)|exact Or.inl (by assumption)⟩
   rw[drop_cons he,List.all_cons,hb,Bool.true_and]at r2;exact AKM.back [] (by (conv=>whnf);exact ⟨rfl,rfl,rfl⟩) (ih2 (j+1) (by omega) ⟨by omega,r2⟩))
  rw[drop_len (by omega)]at r2;rw[←r2,List.all_nil,Bool.true_and]at p2;exact AKM.bk [] (ih (i+1) (by omega) ⟨by omega,p2⟩)
 ·rw[drop_len (by omega),nodesB]at p2
  refine AKM.lq1 (fun i=>n.next.length-i) (fun (i:Nat)=>i≤n.next.length∧nextB (n.s+n.nodes.length) (n.next.drop i)=nextB (n.s+n.nodes.length) n.next) (fun i=>[(7,.int .i64 i)]) (fun _=>[]) 0 ⟨by omega,rfl⟩ ?_;intro k ⟨r1,r2⟩ ih3;(repeat' ((first|(apply CmpP.go<;>intro hc<;>try omega)|(apply OpP.add;omega)|(refine RdP.nat ?_ (fun _=>rfl) (fun e he => ?_);omega)|apply AKM.x|refine CallP.b (ev_ref21_In I _ _ _) (fun hf => ?_) (fun hf => ?_))<;>conv=>whnf))
  all_goals try (
   have hb:decide (0≤e∧e≤n.s+n.nodes.length)=false:=by (rw[decide_eq_false_iff_not];omega)
   rw[drop_cons he,nextB,List.all_cons,hb,Bool.false_and]at r2;refine FinP.b (eqF ?_);rw[netB_iff,←r2];simp;done)
  all_goals try (
   have hb:decide (0≤e∧e≤n.s+n.nodes.length)=true:=by (rw[decide_eq_true_eq];omega)
   rw[drop_cons he,nextB,List.all_cons,hb,Bool.true_and]at r2;exact AKM.back [] (by (conv=>whnf);exact ⟨rfl,rfl,rfl⟩) (ih3 (k+1) (by omega) ⟨by omega,r2⟩))
  all_goals (
   rw[drop_len (by omega)]at r2;first
    | (refine FinP.b (eqT ?_);rw[netB_iff];exact ⟨h1,h2,by omega,p2.symm,r2.symm,by omega,by omega⟩)
    | (refine FinP.b (eqF ?_);rw[netB_iff];omega))
def wordsB (w:Wd) (l:List Int):Bool:=l.all fun v=>decide (FT w v)
def wrongS (st ins:List Int):Int:=if (st.length:Int)≠n.s then 1 else if wordsB n.d st&&wordsB n.d ins then 0 else 17
theorem ev_network_wrong (I:FixedLib L) (J:NetLib L) (st ins:List Int) (q1 q2:Bool) (hn:st.length<9223372036854775808) (hm:ins.length<9223372036854775808):Ev L 22 [.agg (encN n),.sl q1 (st.map encInt),.sl q2 (ins.map encInt)] (.int .i64 (wrongS n st ins)):=by
 refine Ev.x J.network_wrong rfl rfl ?_;(repeat' ((first|(apply CmpP.go<;>intro hc<;>try omega)|apply LenP.go|apply AKM.x)<;>conv=>whnf))
 ·exact FinP.i (by rw[wrongS,if_pos hc])
 have h0:=hc;refine AKM.lq1 (fun i=>st.length-i) (fun (i:Nat)=>i≤st.length∧wordsB n.d (st.drop i)=wordsB n.d st) (fun i=>[(18,.int .i64 i)]) (fun _=>[]) 0 ⟨by omega,rfl⟩ ?_;intro i ⟨p1,p2⟩ ih;(repeat' ((first|(apply CmpP.go<;>intro hc<;>try omega)|(apply OpP.add;omega)|apply LenP.go|(refine RdP.nat ?_ (fun _=>rfl) (fun e he => ?_);omega)|apply AKM.x|refine CallP.b (ev_fixed_Fits ⟨_,_,_,_⟩ I _) (fun hf => ?_) (fun hf => ?_))<;>conv=>whnf))
 ·rw[drop_cons he,wordsB,List.all_cons,decide_eq_true hf,Bool.true_and]at p2
  exact AKM.bk [] (ih (i+1) (by omega) ⟨by omega,p2⟩)
 ·rw[drop_cons he,wordsB,List.all_cons,decide_eq_false hf,Bool.false_and]at p2
  exact FinP.i (by rw[wrongS,if_neg (by omega),←p2];simp)
 ·rw[drop_len (by omega)]at p2
  refine AKM.lq1 (fun i=>ins.length-i) (fun (i:Nat)=>i≤ins.length∧wordsB n.d (ins.drop i)=wordsB n.d ins) (fun i=>[(30,.int .i64 i)]) (fun _=>[]) 0 ⟨by omega,rfl⟩ ?_;intro j ⟨r1,r2⟩ ih2;(repeat' ((first|(apply CmpP.go<;>intro hc<;>try omega)|(apply OpP.add;omega)|(refine RdP.nat ?_ (fun _=>rfl) (fun e he => ?_);omega)|apply AKM.x|refine CallP.b (ev_fixed_Fits ⟨_,_,_,_⟩ I _) (fun hf => ?_) (fun hf => ?_))<;>conv=>whnf))
  ·rw[drop_cons he,wordsB,List.all_cons,decide_eq_true hf,Bool.true_and]at r2
   exact AKM.back [] (by (conv=>whnf);exact ⟨rfl,rfl,rfl⟩) (ih2 (j+1) (by omega) ⟨by omega,r2⟩)
  ·rw[drop_cons he,wordsB,List.all_cons,decide_eq_false hf,Bool.false_and]at r2
   exact FinP.i (by rw[wrongS,if_neg (by omega),←r2];simp)
  ·rw[drop_len (by omega)]at r2
   exact FinP.i (by rw[wrongS,if_neg (by omega),←r2,←p2];rfl)
def sumS (vals:List Int):Int→List (Int × Int)→Int
 | acc,[]=>acc
 | acc,t::ts=>sumS vals (IntKind.i64.wrap (acc+IntKind.i64.wrap (t.2*vals.getD t.1.toNat 0))) ts
theorem sumS_InI (vals:List Int) : ∀ (ts:List (Int × Int)) (acc:Int),InI acc→InI (sumS vals acc ts)
 | [],acc,h=>h
 | t::ts,acc,_=>sumS_InI vals ts _ (wrap_InI _)
def nodeS (vals:List Int) (nd:Nd):Int:=shiftS (sumS vals 0 nd.ts) n.c.f n.d.r
def compS:List Int→Bool→List Nd→List Int × Bool
 | vals,ov,[]=>(vals,ov)
 | vals,ov,nd::l=>compS (vals++[redS n.d (nodeS n vals nd)]) (ov || !decide (FT n.d (nodeS n vals nd))) l
theorem node_ok {vals:List Int} {i:Nat} {nd:Nd} (h:nd.ts.all (termB n.c n.s i)=true) (hl:(vals.length:Int)=1+n.s+i) : ∀ t∈nd.ts,0≤t.1∧t.1<vals.length:=fun t ht=>by
 have:=List.all_eq_true.1 h t ht
 simp only[termB,decide_eq_true_eq]at this;omega
theorem ev_network_compute (I:FixedLib L) (J:NetLib L) (st:List Int) (q1:Bool) (input:Int) (hv:netB n=true) (hst:(st.length:Int)=n.s):Ev L 23 [.agg (encN n),.sl q1 (st.map encInt),.int .i64 input] (.tup [.sl false ((compS n (input::st) false n.nodes).1.map encInt),.bool (compS n (input::st) false n.nodes).2]):=by
 rw[netB_iff]at hv;obtain ⟨h1,h2,h3,h4,h5,h6⟩:=hv;refine Ev.x J.network_compute rfl rfl ?_;(repeat' ((first|(apply OpP.add;omega)|apply LenP.go|apply AKM.x)<;>conv=>whnf))
 refine MkR.go (enc:=encInt) 0 0 rfl rfl (by omega) ?_;(conv=>whnf)
 (repeat' (apply RowP.e1<;>conv=>whnf))
 refine AppR.one (enc:=encInt) (l:=[]) input rfl rfl rfl (by simp) (by simp) ?_;(conv=>whnf)
 refine AppR.many (enc:=encInt) rfl (fun _=>rfl) (by simp;omega) (by simp;omega) ?_;(conv=>whnf)
 (repeat' (apply LenP.go<;>conv=>whnf))
 refine AKM.lq3 (fun i _ _=>n.nodes.length-i) (fun (i:Nat) (vals:List Int) (ov:Bool)=>i≤n.nodes.length∧(vals.length:Int)=1+n.s+i∧nodesB n.c n.s i (n.nodes.drop i)=true∧compS n vals ov (n.nodes.drop i)=compS n (input::st) false n.nodes) (fun i vals ov=>[(8,.row 30 0 1 0 vals.length),(9,.bool ov),(34,.int .i64 i)]) (fun i vals ov=>[(30,23,.rw 1 (vals.map encInt))]) 0 (input::st) false ⟨by simp,by simp;omega,h4,rfl⟩ ?_;intro i vals ov ⟨p1,p2,p3,p4⟩ ih;(repeat' ((first|(apply CmpP.go<;>intro hc<;>try omega)|apply LenP.go|(refine RdP.nat ?_ (fun _=>rfl) (fun e he => ?_);omega)|(refine SnR.all (fun _=>rfl) rfl ?_ ?_;(first|rfl|simp))|apply AKM.x)<;>conv=>whnf))
 ·rename Nd=>nd
  have hnd:=he;rw[drop_cons hnd]at p3 p4;simp only[nodesB,Bool.and_eq_true,decide_eq_true_eq]at p3;obtain ⟨⟨hnt,hts⟩,hvr⟩:=p3;have hf:=node_ok n hts p2;have hI:InI (sumS vals 0 nd.ts):=sumS_InI vals _ _ (by unfold InI;omega);refine AKM.lq2 (fun j _=>nd.ts.length-j) (fun (j:Nat) (acc:Int)=>j≤nd.ts.length∧sumS vals acc (nd.ts.drop j)=sumS vals 0 nd.ts) (fun j acc=>[(12,.int .i64 acc),(41,.int .i64 j)]) (fun _ _=>[]) 0 0 ⟨by simp,rfl⟩ ?_;intro j acc ⟨r1,r2⟩ ih2;(repeat' ((first|(apply CmpP.go<;>intro hc<;>try omega)|(refine RdP.nat ?_ (fun _=>rfl) (fun e he => ?_);omega)|apply AKM.x)<;>conv=>whnf))
  ·have:=hf e (List.mem_of_getElem? he)
   (repeat' ((first|(apply Req.go;omega)|(apply OpP.add;omega)|apply OpP.wadd|apply OpP.wmul|(refine LdR.int ?_ (fun _=>rfl) (fun v hv => ?_);omega))<;>conv=>whnf))
   rw[drop_cons he,sumS]at r2;refine AKM.back [] (by (conv=>whnf);exact ⟨rfl,rfl,rfl⟩) (ih2 (j+1) _ (by omega) ⟨by omega,?_⟩);rw[←r2,List.getD_eq_getElem?_getD,hv];rfl
  ·rw[drop_len (by omega),sumS]at r2
   subst r2;cases ov;all_goals (repeat' ((first|apply RowP.e1|refine CallP.b (ev_fixed_Fits ⟨_,_,_,_⟩ I _) (fun hf => ?_) (fun hf => ?_)|refine CallP.go (ev_fixed_Shift I _ _ _ hI) ?_|refine CallP.go (ev_fixed_Reduce ⟨_,_,_,_⟩ I _) ?_)<;>conv=>whnf))
   all_goals (
    refine AppR.one (enc:=encInt) _ rfl rfl rfl (by omega) (by omega) ?_;(conv=>whnf)
    (repeat' ((first|(apply OpP.add;omega)|fail)<;>conv=>whnf))
    refine AKM.back [(30,78)] (by (conv=>whnf);exact ⟨rfl,rfl,rfl⟩) (ih (i+1) _ _ (by omega) ⟨by omega,by simp;omega,hvr,?_⟩);rw[←p4,compS];first|rfl|(have hf:FT n.d (nodeS n vals nd):=hf;rw[decide_eq_true hf];rfl)|(have hf : ¬ FT n.d (nodeS n vals nd):=hf;rw[decide_eq_false hf];rfl))
 ·rw[drop_len (by omega),compS]at p4
  rw[←p4];exact FinP.go rfl (by simp [Clean,CleanL,cl_ints])
def valS (st:List Int) (x:Int):List Int × Bool × Int :=
 if netB n then (if wrongS n st [x]=0 then ((compS n (x::st) false n.nodes).1,(compS n (x::st) false n.nodes).2,0) else ([],false,wrongS n st [x])) else ([],false,2)
theorem valS_inv {st:List Int} {x:Int} (h:netB n=false):valS n st x=([],false,2):=by rw[valS,h];rfl
theorem valS_err {st:List Int} {x:Int} (h:netB n=true) (h':wrongS n st [x]≠0):valS n st x=([],false,wrongS n st [x]):=by rw[valS,if_pos h,if_neg h']
theorem valS_ok {st:List Int} {x:Int} (h:netB n=true) (h':wrongS n st [x]=0):valS n st x=((compS n (x::st) false n.nodes).1,(compS n (x::st) false n.nodes).2,0):=by rw[valS,if_pos h,if_pos h']
theorem wrongS_len {st ins:List Int} (h:wrongS n st ins=0):(st.length:Int)=n.s:=by
 unfold wrongS at h;split at h
 ·cases h
 ·omega
theorem ev_network_Values (I:FixedLib L) (J:NetLib L) (st:List Int) (q1:Bool) (x:Int) (hn:st.length<9223372036854775808):Ev L 24 [.agg (encN n),.sl q1 (st.map encInt),.int .i64 x] (.tup [.sl false ((valS n st x).1.map encInt),.bool (valS n st x).2.1,.int .i64 (valS n st x).2.2]):=by
 refine Ev.x J.network_Values rfl rfl ?_;(repeat' ((first|(apply CmpP.go<;>intro hc<;>try omega)|refine SnR.e1 rfl ?_|apply AKM.x|refine CallP.B (ev_network_Valid n I J) (fun hf => ?_) (fun hf => ?_)|refine CallP.go (ev_network_wrong n I J st [x] _ _ hn (by simp)) ?_)<;>conv=>whnf))
 ·rw[valS_err n hf hc]
  exact FinP.go rfl (by simp [Clean,CleanL,CleanLL])
 ·rw[valS_ok n hf hc]
  (repeat' (refine CallP.go (ev_network_compute n I J st _ _ hf (wrongS_len n hc)) ?_<;>conv=>whnf))
  exact FinP.go rfl (by simp [Clean,CleanL,cl_ints])
 ·rw[valS_inv n hf]
  exact FinP.go rfl (by simp [Clean,CleanL,CleanLL])
theorem fill_step {α:Type} {o F:List α} {i:Nat} {v:α} (hl:o.length=F.length) (h:o.take i=F.take i) (hv:F[i]? = some v):(o.set i v).length=F.length∧(o.set i v).take (i+1)=F.take (i+1):=by
 obtain ⟨hi,rfl⟩:=List.getElem?_eq_some_iff.1 hv;refine ⟨by simp [hl],?_⟩;rw[List.take_add_one,List.take_add_one,←h];congr 1
 ·rw[List.take_set_of_le (Nat.le_refl i)]
 ·rw[hv];simp [hl,hi]
theorem fill_done {α:Type} {o F:List α} {i:Nat} (hl:o.length=F.length) (h:o.take i=F.take i) (hi:F.length≤i):o=F:=by
 rwa [List.take_of_length_le (by omega),List.take_of_length_le hi]at h
def follS (vals:List Int):List Int:=n.next.map fun k=>vals.getD k.toNat 0
theorem ev_network_follow (J:NetLib L) (vals:List Int) (q:Bool) (hv:netB n=true) (hl:(vals.length:Int)=1+n.s+n.nodes.length):Ev L 25 [.agg (encN n),.sl q (vals.map encInt)] (.sl false ((follS n vals).map encInt)):=by
 rw[netB_iff]at hv;obtain ⟨h1,h2,h3,h4,h5,h6⟩:=hv;refine Ev.x J.network_follow rfl rfl ?_;(repeat' (apply AKM.x<;>conv=>whnf))
 refine MkR.got (enc:=encInt) 0 rfl (by omega) (by omega) ?_;(conv=>whnf)
 (repeat' (apply LenP.go<;>conv=>whnf))
 have hF:(follS n vals).length=n.next.length:=by simp [follS]
 refine AKM.loop2 (fun i _=>n.next.length-i) (fun (i:Nat) (o:List Int)=>i≤n.next.length∧o.length=(follS n vals).length∧o.take i=(follS n vals).take i) (fun i o=>[(5,.row 10 0 1 0 o.length),(14,.int .i64 i)]) (fun i o=>[(10,10,.rw 1 (o.map encInt))]) [] [] 0 (List.replicate n.s.toNat 0) (by rw[List.length_replicate];exact (by (conv=>whnf);exact ⟨rfl,rfl,rfl⟩)) ⟨by simp,by simp [hF];omega,by simp⟩ ?_;intro i o ⟨p1,p2,p3⟩ ih;(repeat' ((first|(apply CmpP.go<;>intro hc<;>try omega)|(refine RdP.nat ?_ (fun _=>rfl) (fun e he => ?_);omega)|(refine SnR.all (fun _=>rfl) rfl ?_ ?_;(first|rfl|simp))|apply AKM.x)<;>conv=>whnf))
 ·have hb:=List.all_eq_true.1 h5 _ (List.mem_of_getElem? he)
  simp only[decide_eq_true_eq]at hb;(repeat' ((first|(apply Req.go;omega)|(refine RdP.go ?_ (fun _=>rfl) (fun e he => ?_);omega))<;>conv=>whnf))
  rename_i kk hk;have hF':(follS n vals)[i]? = some e:=by
   simp only[follS,List.getElem?_map,hk,Option.map_some,List.getD_eq_getElem?_getD,he,Option.getD_some]
  obtain ⟨f1,f2⟩:=fill_step p2 p3 hF';refine StR.nat (enc:=encInt) e rfl (fun _=>rfl) (by omega) ?_;(conv=>whnf)
  (repeat' ((first|(apply OpP.add;omega)|fail)<;>conv=>whnf))
  exact AKM.back [] (by rw[List.length_set];exact (by (conv=>whnf);exact ⟨rfl,rfl,rfl⟩)) (ih (i+1) (o.set i e) (by omega) ⟨by omega,f1,f2⟩)
 ·exact FinP.go (by rw[fill_done p2 p3 (by omega)]) (by simp [Clean,cl_ints])
theorem comp_len : ∀ (l:List Nd) (vals:List Int) (ov:Bool),(compS n vals ov l).1.length=vals.length+l.length
 | [],vals,ov=>rfl
 | nd::l,vals,ov=>by rw[compS,comp_len l];simp;omega
def stepS (st:List Int) (x:Int):List Int × Int × Bool × Int :=
 if (valS n st x).2.2=0 then (follS n (valS n st x).1,(valS n st x).1.getD n.out.toNat 0,(valS n st x).2.1,0) else ([],0,false,(valS n st x).2.2)
theorem valS_fine {st:List Int} {x:Int} (h:(valS n st x).2.2=0):netB n=true∧((valS n st x).1.length:Int)=1+n.s+n.nodes.length:=by
 cases hn:netB n
 ·rw[valS_inv n hn]at h;cases h
 ·refine ⟨rfl,?_⟩
  by_cases hw:wrongS n st [x]=0
  ·rw[valS_ok n hn hw,comp_len]
   have:=wrongS_len n hw
   simp;omega
  ·rw[valS_err n hn hw]at h;exact absurd h hw
theorem stepS_err {st:List Int} {x:Int} (h:(valS n st x).2.2≠0):stepS n st x=([],0,false,(valS n st x).2.2):=by rw[stepS,if_neg h]
theorem stepS_ok {st:List Int} {x:Int} (h:(valS n st x).2.2=0):stepS n st x=(follS n (valS n st x).1,(valS n st x).1.getD n.out.toNat 0,(valS n st x).2.1,0):=by rw[stepS,if_pos h]
theorem getD_of {l:List Int} {i:Nat} {e:Int} (h:l[i]? = some e):l.getD i 0=e:=by rw[List.getD_eq_getElem?_getD,h];rfl
theorem ev_network_Step (I:FixedLib L) (J:NetLib L) (st:List Int) (q1:Bool) (x:Int) (hn:st.length<9223372036854775808):Ev L 26 [.agg (encN n),.sl q1 (st.map encInt),.int .i64 x] (.tup [.sl false ((stepS n st x).1.map encInt),.int .i64 (stepS n st x).2.1,.bool (stepS n st x).2.2.1,.int .i64 (stepS n st x).2.2.2]):=by
 refine Ev.x J.network_Step rfl rfl ?_;(repeat' ((first|(apply CmpP.go<;>intro hc<;>try omega)|apply AKM.x|refine CallP.go (ev_network_Values n I J st q1 x hn) ?_)<;>conv=>whnf))
 ·rw[stepS_err n hc]
  exact FinP.go rfl (by simp [Clean,CleanL,CleanLL])
 ·rw[stepS_ok n hc]
  obtain ⟨g1,g2⟩:=valS_fine n hc;have g1':=(netB_iff n).1 g1;obtain ⟨_,_,g3,_,_,g4⟩:=g1';(repeat' ((first|(refine RdP.go ?_ (fun _=>rfl) (fun e he => ?_);omega)|refine CallP.go (ev_network_follow n J _ _ g1 g2) ?_)<;>conv=>whnf))
  rw[getD_of he];exact FinP.go rfl (by simp [Clean,CleanL,cl_ints])
theorem red_ok {w:Wd} (h:WV w) (v:Int):FT w (redS w v):=by
 obtain ⟨h1,h2,h3,h4⟩:=low_high h;have hw:=h;unfold WV at hw;refine ⟨h,?_⟩;unfold redS;rw[if_pos h];split
 ·have e:=pw_succ (n:=w.b) (by omega)
  have a1:0≤v%pw w.b:=Int.emod_nonneg _ (by omega);have a2:v%pw w.b<pw w.b:=Int.emod_lt_of_pos _ (by omega);unfold wrapS;rw[if_pos (by omega)];split<;>omega
 ·unfold satS;omega
theorem wordsB_app {w:Wd} {l l':List Int} (h:wordsB w l=true) (h':wordsB w l'=true):wordsB w (l++l')=true:=by
 simp only[wordsB]at *;rw[List.all_append,h,h'];rfl
theorem comp_words (hd:WV n.d) : ∀ (l:List Nd) (vals:List Int) (ov:Bool),wordsB n.d vals=true→wordsB n.d (compS n vals ov l).1=true
 | [],vals,ov,h=>h
 | nd::l,vals,ov,h=>by
  rw[compS];exact comp_words hd l _ _ (wordsB_app h (by simp [wordsB,red_ok hd]))
theorem words_get {w:Wd} {l:List Int} (h:wordsB w l=true) {i:Nat} {e:Int} (he:l[i]? = some e):FT w e:=by
 have:=List.all_eq_true.1 h e (List.mem_of_getElem? he)
 simpa using this
theorem foll_words {vals:List Int} (h:wordsB n.d vals=true) (hx:nextB (n.s+n.nodes.length) n.next=true) (hl:(vals.length:Int)=1+n.s+n.nodes.length):wordsB n.d (follS n vals)=true:=by
 unfold wordsB follS;rw[List.all_eq_true];intro v hv;obtain ⟨k,hk,rfl⟩:=List.mem_map.1 hv;have hb:=List.all_eq_true.1 hx k hk;simp only[decide_eq_true_eq]at hb;have hlt:k.toNat<vals.length:=by omega
 have he:vals[k.toNat]? = some vals[k.toNat]:=List.getElem?_eq_getElem hlt;rw[getD_of he];simpa using words_get h he
theorem wrong_zero {st ins:List Int}:wrongS n st ins=0↔(st.length:Int)=n.s∧wordsB n.d st=true∧wordsB n.d ins=true:=by
 unfold wrongS;by_cases h:(st.length:Int)≠n.s
 ·rw[if_pos h];constructor
  ·intro h;cases h
  ·intro h';exact absurd h'.1 h
 ·rw[if_neg h]
  simp only[ne_eq,Decidable.not_not]at h;split
  ·rename_i hh
   simp only[Bool.and_eq_true]at hh;exact ⟨fun _=>⟨h,hh⟩,fun _=>rfl⟩
  ·rename_i hh
   simp only[Bool.and_eq_true]at hh;exact ⟨fun h=>(by cases h),fun h=>absurd h.2 hh⟩
theorem step_good {st:List Int} {x:Int} (hn:netB n=true) (h1:(st.length:Int)=n.s) (h2:wordsB n.d st=true) (h3:FT n.d x):stepS n st x=(follS n (compS n (x::st) false n.nodes).1,(compS n (x::st) false n.nodes).1.getD n.out.toNat 0,(compS n (x::st) false n.nodes).2,0):=by
 have hw:wrongS n st [x]=0:=(wrong_zero n).2 ⟨h1,h2,by simp [wordsB,h3]⟩;rw[stepS_ok n (by rw[valS_ok n hn hw]),valS_ok n hn hw]
end Go.Eng

namespace Go.Eng
variable {L:Lib}
def oLt (N:Nat):Opd→Bool
 | .t n=>Nat.blt n N
 | .c _=>true
def opLt (N:Nat):AOp→Bool
 | .mov x=>oLt N x
 | .vrow _ _=>true
 | .pick c a b=>oLt N c&&(oLt N a&&oLt N b)
 | .bin _ x y=>oLt N x&&oLt N y
 | .beq _ x y=>oLt N x&&oLt N y
 | .un _ x=>oLt N x
 | .conv _ x=>oLt N x
 | .box _ x=>oLt N x
 | .alloc _ _=>true
 | .build _ ps=>ps.all fun p=>oLt N p.2.2
 | .bslice _ _ ps=>ps.all (oLt N)
 | .fadr x _=>oLt N x
 | .fld x _ _ _=>oLt N x
 | .iadr _ _ x i=>oLt N x&&oLt N i
 | .ld _ _ x=>oLt N x
 | .st _ x v=>oLt N x&&oLt N v
 | .mk _ _ _ _ l c=>oLt N l&&oLt N c
 | .slc _ x lo hi=>oLt N x&&((lo.all (oLt N))&&(hi.all (oLt N)))
 | .ext x _=>oLt N x
 | .len x=>oLt N x
 | .mm _ xs=>xs.all (oLt N)
 | .app _ _ _ x y=>oLt N x&&oLt N y
 | .call _ xs=>xs.all (oLt N)
 | .calli _ xs=>xs.all (oLt N)
 | .bad=>true
 | .mkm _=>true
 | .apf _ _ x y=>oLt N x&&oLt N y
 | .srt _ _ _ x c=>oLt N x&&oLt N c
 | .mlk x k=>oLt N x&&oLt N k
 | .mup x k v=>oLt N x&&(oLt N k&&oLt N v)
 | .nck x=>oLt N x
 | .callv x xs=>oLt N x&&xs.all (oLt N)
 | .callq _ xs=>xs.all (oLt N)
 | .callr _ _ xs=>xs.all (oLt N)
 | .cals _ _ xs=>xs.all (oLt N)
 | .appo _ _ _ x y=>oLt N x&&oLt N y
def aiLt (N:Nat) (a:AI):Bool:=(a.dst.all fun d=>Nat.blt d N)&&((a.guard.all fun g=>Nat.blt g.1 N)&&opLt N a.op)
def cLt (N:Nat):ACode→Bool
 | .skip=>true
 | .ops l _=>l.all (aiLt N)
 | .dr c ts _=>cLt N c&&ts.all fun t=>Nat.blt t N
 | .scope c=>cLt N c
 | .seq a b=>cLt N a&&cLt N b
 | .cond c a b=>oLt N c&&(cLt N a&&cLt N b)
 | .block _ c=>cLt N c
 | .loop c=>cLt N c
 | .exit _=>true
 | .ret=>true
def iLt (N:Nat):It→Bool
 | .code c=>cLt N c
 | .drp ts _=>ts.all fun t=>Nat.blt t N
 | .blk _=>true
 | .lp c=>cLt N c
structure Gh (N:Nat) (G T T':Tm):Prop where
 lo : ∀ j,j<N→tget T' j=tget T j
 hi : ∀ j,N≤j→tget T' j=tget G j
variable {N:Nat} {G:Tm}
theorem blt_iff {a b:Nat}:Nat.blt a b=true↔a<b:=by simp [Nat.blt];omega
theorem Gh.ev {st:St} {T':Tm} {o:Own} (h:Gh N G st.tm T') {x:Opd} (hx:oLt N x=true):St.ev ⟨T',o⟩ x=st.ev x:=by
 cases x with
 | t n=>exact h.lo n (blt_iff.1 hx)
 | c v=>rfl
theorem map_ev {f g:Opd→AV} {xs:List Opd} (h : ∀ x,oLt N x=true→f x=g x) (hx:xs.all (oLt N)=true):xs.map f=xs.map g:=by
 apply List.map_congr_left;intro x hm;exact h x (List.all_eq_true.1 hx x hm)
theorem eff_gh {C:Cl} {ban:List Nat} {ρ ρ':Opd→AV} {own:Own} (h : ∀ x,oLt N x=true→ρ' x=ρ x) : ∀ (op:AOp),opLt N op=true→eff C ban ρ' own op=eff C ban ρ own op:=by
 intro op hop;cases op;case build zero ps =>
  have:(ps.map fun p=>(p.1,p.2.1,ρ' p.2.2))=ps.map fun p=>(p.1,p.2.1,ρ p.2.2):=by
   apply List.map_congr_left;intro p hm;rw[h _ (List.all_eq_true.1 hop p hm)]
  simp only[eff,this]
 case bslice s esz ps =>
  have:ps.mapM (fun x=>cellsOf (ρ' x))=ps.mapM (fun x=>cellsOf (ρ x)):=by
   have hps:ps.all (oLt N)=true:=hop;clear hop;induction ps with
   | nil=>rfl
   | cons p r ih =>
    simp only[List.all_cons,Bool.and_eq_true]at hps;simp only[List.mapM_cons,h _ hps.1,ih hps.2]
  simp only[eff,this]
 case mm m xs=>simp only[eff,map_ev h hop]
 case call f xs=>simp only[eff,map_ev h hop]
 case calli f xs=>simp only[eff,map_ev h hop]
 case callq f xs=>simp only[eff,map_ev h hop]
 case callr s f xs=>simp only[eff,map_ev h hop]
 case cals s f xs=>simp only[eff,map_ev h hop]
 case callv x xs =>
  simp only[opLt,Bool.and_eq_true]at hop;simp only[eff,map_ev h hop.2,h _ hop.1]
 case slc esz x lo hi =>
  simp only[opLt,Bool.and_eq_true]at hop;obtain ⟨h1,h2,h3⟩:=hop;cases lo<;>cases hi<;>simp only[Option.all_some,Option.all_none]at h2 h3<;>simp only[eff,h _ h1,h _,h2,h3]
 all_goals (simp only[opLt,Bool.and_eq_true]at hop;simp only[eff,h _,hop])
theorem Gh.dst {T T':Tm} (h:Gh N G T T') {d:Nat} (hd:d<N) (v:AV):Gh N G (tput T d v) (tput T' d v):=by
 constructor
 ·intro j hj
  rw[tget_tput,tget_tput,h.lo j hj]
 ·intro j hj
  rw[tget_tput,h.hi j hj,if_neg (by omega)]
theorem Gh.dstO {T T':Tm} {o:Own} (h:Gh N G T T') {d:Option Nat} (hd:(d.all fun d=>Nat.blt d N)=true) (v:AV):((⟨T',o⟩:St).dst d v).own=((⟨T,o⟩:St).dst d v).own∧Gh N G ((⟨T,o⟩:St).dst d v).tm ((⟨T',o⟩:St).dst d v).tm:=by
 cases d with
 | none=>exact ⟨rfl,h⟩
 | some d=>exact ⟨rfl,h.dst (blt_iff.1 hd) v⟩
theorem stepI_gh {C:Cl} {a:AI} (ha:aiLt N a=true) {T T':Tm} {o:Own} (h:Gh N G T T') {s':St} (hs:stepI C a ⟨T',o⟩=some s') : ∃ s,stepI C a ⟨T,o⟩=some s∧s'.own=s.own∧Gh N G s.tm s'.tm:=by
 simp only[aiLt,Bool.and_eq_true]at ha;obtain ⟨h1,h2,h3⟩:=ha;have hg:guardA ⟨T',o⟩ a.guard=guardA ⟨T,o⟩ a.guard:=by
  cases hgg:a.guard with
  | none=>rfl
  | some g =>
   rw[hgg]at h2;simp only[guardA,h.lo _ (blt_iff.1 h2)]
 have he:=eff_gh (C:=C) (ban:=a.ban) (own:=o) (ρ:=St.ev ⟨T,o⟩) (ρ':=St.ev ⟨T',o⟩) (fun x hx=>Gh.ev (st:=⟨T,o⟩) h hx) a.op h3;unfold stepI at hs ⊢;rw[hg,he]at hs;cases hgd:guardA ⟨T,o⟩ a.guard with
 | none=>rw[hgd]at hs;cases hs
 | some b =>
  rw[hgd]at hs;cases b with
  | false =>
   simp only[Option.some.injEq]at hs ⊢;subst hs;exact ⟨_,rfl,h.dstO h1 _⟩
  | true =>
   simp only at hs ⊢;cases hee:eff C a.ban (St.ev ⟨T,o⟩) o a.op with
   | none=>rw[hee]at hs;cases hs
   | some e =>
    rw[hee]at hs;simp only[Option.map_some,Option.some.injEq]at hs ⊢;subst hs;refine ⟨_,rfl,?_⟩;cases e with
    | val v=>exact h.dstO h1 v
    | new s b v=>exact ⟨rfl,(h.dstO (o:=o) h1 _).2⟩
    | vir s b v=>exact ⟨rfl,(h.dstO (o:=o) h1 _).2⟩
    | tur v o'=>exact ⟨rfl,(h.dstO (o:=o) h1 _).2⟩
    | upd s x=>exact ⟨rfl,(h.dstO (o:=o) h1 _).2⟩
    | upn s x v=>exact ⟨rfl,(h.dstO (o:=o) h1 _).2⟩
    | tub s v o'=>exact ⟨rfl,(h.dstO (o:=o) h1 _).2⟩
theorem stepL_gh {C:Cl} : ∀ {l:List AI},l.all (aiLt N)=true → ∀ {T T':Tm} {o:Own},Gh N G T T' → ∀ {s':St},stepL C l ⟨T',o⟩=some s' → ∃ s,stepL C l ⟨T,o⟩=some s∧s'.own=s.own∧Gh N G s.tm s'.tm
 | [],_,T,T',o,h,s',hs=>by
  simp only[stepL,Option.some.injEq]at hs;subst hs;exact ⟨_,rfl,rfl,h⟩
 | a::l,ha,T,T',o,h,s',hs=>by
  simp only[List.all_cons,Bool.and_eq_true]at ha;simp only[stepL]at hs;cases h1:stepI C a ⟨T',o⟩ with
  | none=>rw[h1]at hs;cases hs
  | some s1 =>
   rw[h1]at hs;obtain ⟨s2,e1,e2,e3⟩:=stepI_gh ha.1 h h1;obtain ⟨T1,o1⟩:=s1;obtain ⟨T2,o2⟩:=s2;simp only at e2 e3;subst e2;obtain ⟨s3,f1,f2,f3⟩:=stepL_gh ha.2 e3 hs;exact ⟨s3,by simp only[stepL,e1,f1],f2,f3⟩
theorem exitA_lt {id:Nat} : ∀ {k k':List It},k.all (iLt N)=true→exitA id k=some k'→k'.all (iLt N)=true
 | [],_,_,h=>by simp [exitA]at h
 | it::k,k',hk,h=>by
  simp only[List.all_cons,Bool.and_eq_true]at hk;cases it with
  | blk i =>
   simp only[exitA]at h;split at h
   ·cases h;exact hk.2
   ·exact exitA_lt hk.2 h
  | code c=>simp only[exitA]at h;exact exitA_lt hk.2 h
  | drp a b=>simp only[exitA]at h;exact exitA_lt hk.2 h
  | lp c=>simp only[exitA]at h;exact exitA_lt hk.2 h
theorem run_gh {C:Cl} : ∀ (n:Nat) {k:List It},k.all (iLt N)=true → ∀ {T T':Tm} {o:Own},Gh N G T T' → ∀ {s':St},run C n k ⟨T',o⟩=some s' → ∃ s,run C n k ⟨T,o⟩=some s∧s'.own=s.own∧Gh N G s.tm s'.tm
 | 0,k,_,T,T',o,_,s',hs=>by simp [run]at hs
 | n+1,[],_,T,T',o,h,s',hs=>by
  simp only[run,Option.some.injEq]at hs ⊢;subst hs;exact ⟨_,rfl,rfl,h⟩
 | n+1,.blk _::k,hk,T,T',o,h,s',hs=>by
  simp only[List.all_cons,Bool.and_eq_true]at hk;simp only[run]at hs ⊢;exact run_gh n hk.2 h hs
 | n+1,.drp ts ss::k,hk,T,T',o,h,s',hs=>by
  simp only[List.all_cons,Bool.and_eq_true]at hk;simp only[run]at hs ⊢;refine run_gh n hk.2 ⟨fun j hj => ?_,fun j hj => ?_⟩ hs
  ·rw[tget_tdrop,tget_tdrop,h.lo j hj]
  ·rw[tget_tdrop,h.hi j hj,if_neg]
   intro hc;have:=List.all_eq_true.1 hk.1 j (by simpa using hc)
   have:=blt_iff.1 this
   omega
 | n+1,.lp c::k,hk,T,T',o,h,s',hs=>by
  simp only[run]at hs ⊢;have hk':=hk;simp only[List.all_cons,Bool.and_eq_true]at hk;exact run_gh n (by simp only[List.all_cons,Bool.and_eq_true];exact ⟨hk.1,hk.1,hk.2⟩) h hs
 | n+1,.code c::k,hk,T,T',o,h,s',hs=>by
  simp only[List.all_cons,Bool.and_eq_true]at hk;obtain ⟨hc,hk⟩:=hk;cases c with
  | skip=>simp only[run]at hs ⊢;exact run_gh n hk h hs
  | ops l d =>
   simp only[run]at hs ⊢;cases h1:stepL C l ⟨T',o⟩ with
   | none=>rw[h1]at hs;cases hs
   | some s1 =>
    rw[h1]at hs;obtain ⟨s2,e1,e2,e3⟩:=stepL_gh (show l.all (aiLt N)=true from hc) h h1;obtain ⟨T1,o1⟩:=s1;obtain ⟨T2,o2⟩:=s2;simp only at e2 e3;subst e2;rw[e1];exact run_gh n hk e3 hs
  | dr c ts ss =>
   simp only[run]at hs ⊢;simp only[iLt,cLt,Bool.and_eq_true]at hc;exact run_gh n (by simp only[List.all_cons,Bool.and_eq_true];exact ⟨hc.1,hc.2,hk⟩) h hs
  | scope c =>
   simp only[run]at hs ⊢;exact run_gh n (by simp only[List.all_cons,Bool.and_eq_true];exact ⟨hc,hk⟩) h hs
  | seq a b =>
   simp only[run]at hs ⊢;simp only[iLt,cLt,Bool.and_eq_true]at hc;exact run_gh n (by simp only[List.all_cons,Bool.and_eq_true];exact ⟨hc.1,hc.2,hk⟩) h hs
  | cond x a b =>
   simp only[iLt,cLt,Bool.and_eq_true]at hc;simp only[run,Gh.ev (st:=⟨T,o⟩) h hc.1]at hs ⊢;cases hx:St.ev ⟨T,o⟩ x<;>rw[hx]at hs<;>try (simp at hs;done)
   rename_i q;cases q
   ·exact run_gh n (by simp only[List.all_cons,Bool.and_eq_true];exact ⟨hc.2.2,hk⟩) h hs
   ·exact run_gh n (by simp only[List.all_cons,Bool.and_eq_true];exact ⟨hc.2.1,hk⟩) h hs
  | block id c =>
   simp only[run]at hs ⊢;exact run_gh n (by simp only[List.all_cons,Bool.and_eq_true];exact ⟨hc,rfl,hk⟩) h hs
  | loop c =>
   simp only[run]at hs ⊢;exact run_gh n (by simp only[List.all_cons,Bool.and_eq_true];exact ⟨hc,hc,hk⟩) h hs
  | exit id =>
   simp only[run]at hs ⊢;cases he:exitA id k with
   | none=>rw[he]at hs;cases hs
   | some k' =>
    rw[he]at hs;exact run_gh n (exitA_lt hk he) h hs
  | ret =>
   simp only[run,Option.some.injEq]at hs ⊢;subst hs;exact ⟨_,rfl,rfl,h⟩
def shT (N:Nat):Tm→Tm
 | []=>[]
 | (i,v)::r=>(N+i,v)::shT N r
def gh (N:Nat):Tm→Tm
 | []=>[]
 | (i,v)::r=>bif Nat.ble N i then (Nat.sub i N,v)::gh N r else gh N r
theorem tget_shT (N j:Nat) : ∀ T:Tm,tget (shT N T) (N+j)=tget T j
 | []=>rfl
 | (i,v)::r=>by
  have ih:=tget_shT N j r;simp only[shT,tget,ih];by_cases h:j=i
  ·simp [h]
  ·rw[if_neg h,if_neg (by omega)]
theorem tget_shT_lt {N j:Nat} (hj:j<N) : ∀ T:Tm,tget (shT N T) j = .any
 | []=>rfl
 | (i,v)::r=>by
  simp only[shT,tget,tget_shT_lt hj r];rw[if_neg (by omega)]
theorem tget_gh (N j:Nat) : ∀ T:Tm,tget (gh N T) j=tget T (N+j)
 | []=>rfl
 | (i,v)::r=>by
  have ih:=tget_gh N j r;simp only[gh];cases h:Nat.ble N i
  ·have h1 : ¬ N≤i:=fun e=>by rw[Nat.ble_eq_true_of_le e]at h;cases h
   simp only[cond,tget,ih];rw[if_neg (by omega)]
  ·have h1:=Nat.le_of_ble_eq_true h
   simp only[cond,tget,ih];by_cases h2:j=i-N
   ·rw[if_pos (show j=Nat.sub i N from h2),if_pos (by omega)]
   ·rw[if_neg (show ¬ j=Nat.sub i N from h2),if_neg (by omega)]
def mapT (f:AV→AV):Tm→Tm
 | []=>[]
 | (i,v)::r=>(i,f v)::mapT f r
theorem tget_mapT {f:AV→AV} (hf:f .any = .any) (j:Nat) : ∀ T:Tm,tget (mapT f T) j=f (tget T j)
 | []=>hf.symm
 | (i,v)::r=>by
  simp only[mapT,tget,tget_mapT hf j r];by_cases h:j=i<;>simp [h]
theorem initTm_map (f:AV→AV) : ∀ (i:Nat) (vs:List AV),initTm i (vs.map f)=mapT f (initTm i vs)
 | _,[]=>rfl
 | i,v::r=>by simp only[List.map_cons,initTm,mapT,initTm_map f (i+1) r]
theorem tget_append (j:Nat) (b:Tm) : ∀ a:Tm,((a.any fun p=>p.1 == j)=true∧tget (a++b) j=tget a j)∨((a.any fun p=>p.1 == j)=false∧tget (a++b) j=tget b j)
 | []=>Or.inr ⟨rfl,rfl⟩
 | (i,v)::r=>by
  by_cases h:j=i
  ·subst h
   exact Or.inl (by simp [tget])
  ·have h' : ¬ i=j:=fun e=>h e.symm
   rcases tget_append j b r with ⟨h1,h2⟩|⟨h1,h2⟩
   ·exact Or.inl ⟨by rw[List.any_cons,h1,Bool.or_true],by simp only[List.cons_append,tget,if_neg h,h2]⟩
   ·exact Or.inr ⟨by rw[List.any_cons,h1,Bool.or_false];simpa using h',by simp only[List.cons_append,tget,if_neg h,h2]⟩
theorem initTm_any (j:Nat) : ∀ (i:Nat) (vs:List AV),((initTm i vs).any fun p=>p.1 == j)=true→j<i+vs.length
 | _,[],h=>by simp [initTm]at h
 | i,v::r,h=>by
  simp only[initTm,List.any_cons,Bool.or_eq_true,beq_iff_eq]at h;rcases h with h|h
  ·simp;omega
  ·have:=initTm_any j (i+1) r h
   simp;omega
theorem tget_initTm_hi (j:Nat) : ∀ (i:Nat) (vs:List AV),((initTm i vs).any fun p=>p.1 == j)=false→tget (initTm i vs) j = .any
 | _,[],_=>rfl
 | i,v::r,h=>by
  simp only[initTm,List.any_cons,Bool.or_eq_false_iff,beq_eq_false_iff_ne]at h;simp only[initTm,tget];rw[if_neg fun e=>h.1 e.symm,tget_initTm_hi j (i+1) r h.2]
theorem st3_any (σ:Stp):st3 σ .any = .any:=rfl
def resI (tm:Tm):List ARes→Option (List AV)
 | []=>some []
 | .tmp t::r=>match resTmp (tg tm t),resI tm r with
  | some v,some vs=>some (v::vs)
  | _,_=>none
 | .cell _ _ _::_=>none
def resLt (N:Nat):List ARes→Bool
 | []=>true
 | .tmp t::r=>Nat.blt t N&&resLt N r
 | .cell _ _ _::_=>false
def RetI (N:Nat) (fn:AFn) (tm:Tm) (K:AV→Mem→Prop) (tm':Tm) (M':Mem):Prop:=gh N tm'=tm ∧ ∃ rs,resI tm' fn.res=some rs∧K (resVal rs) M'
theorem resTmp_st {σ:Stp} {v u:AV} (h:resTmp v=some u):u=v∧st3 σ v=st2 σ v∧resTmp (st3 σ v)=some (st3 σ v):=by
 cases v<;>simp [resTmp]at h<;>subst h<;>exact ⟨rfl,rfl,rfl⟩
theorem resI_sound {σ:Stp} {tm':Tm} {M:Mem} {s s':St} (hr:RX σ tm' M s') (hlo : ∀ j,j<N→tget s'.tm j=tget s.tm j) : ∀ {res:List ARes} {rs:List AV},resLt N res=true→resI tm' res=some rs→res.mapM (resOf s)=some (rs.map (st2 σ)) ∧ ∀ v∈rs,st3 σ v=st2 σ v
 | [],rs,_,h=>by
  simp only[resI,Option.some.injEq]at h;subst h;exact ⟨rfl,by simp⟩
 | .cell _ _ _::_,_,_,h=>by simp [resI]at h
 | .tmp t::r,rs,hl,h=>by
  simp only[resLt,Bool.and_eq_true]at hl;simp only[resI]at h;cases h1:resTmp (tg tm' t) with
  | none=>rw[h1]at h;simp at h
  | some v =>
   cases h2:resI tm' r with
   | none=>rw[h1,h2]at h;simp at h
   | some vs =>
    rw[h1,h2]at h;simp only[Option.some.injEq]at h;subst h;obtain ⟨i1,i2⟩:=resI_sound hr hlo hl.2 h2;obtain ⟨rfl,j2,j3⟩:=resTmp_st (σ:=σ) h1;have:tget s.tm t=st3 σ (tg tm' t):=by
     rcases hr.tm t with e|e
     ·rw[e]at h1;cases h1
     ·rw[←hlo t (blt_iff.1 hl.1),e]
    refine ⟨?_,?_⟩
    ·rw[j2]at j3 this
     simp only[List.mapM_cons,resOf,this,j3,i1,List.map_cons];rfl
    ·intro v hv
     simp only[List.mem_cons]at hv;rcases hv with rfl|hv
     ·exact j2
     ·exact i2 v hv
theorem resVal_st {σ:Stp} {rs:List AV} (h : ∀ v∈rs,st3 σ v=st2 σ v):resVal (rs.map (st2 σ))=st3 σ (resVal rs):=by
 match rs,h with
 | [],_=>rfl
 | [v],h=>exact (h v (by simp)).symm
 | _::_::_,_=>rfl
theorem CalP.walk {f:Nat} {fn:AFn} {vs:List AV} {tm:Tm} {M:Mem} {K:AV→Mem→Prop} (N:Nat) (hL:L f=some fn) (hp:Nat.beq vs.length fn.pars=true) (hN:(Nat.ble fn.pars N&&(cLt N fn.body&&resLt N fn.res))=true)
  (h:AKM L [.code fn.body] (initTm 0 vs++shT N tm) M (RetI N fn tm K)):CalP L f vs tm M K:=by
 intro σ own hs;simp only[Bool.and_eq_true]at hN;obtain ⟨n1,n2,n3⟩:=hN;have n1:=Nat.le_of_ble_eq_true n1;have hp:vs.length=fn.pars:=Nat.eq_of_beq_eq_true hp;have hrx:RX σ (initTm 0 vs++shT N tm) M ⟨mapT (st3 σ) (initTm 0 vs++shT N tm),own⟩:=⟨fun j=>Or.inr (by rw[tg_eq];exact tget_mapT (st3_any σ) j _),hs⟩;obtain ⟨n,c,s',hr,σ',tm',M',hR,hg,rs,hrs,hk⟩:=h σ _ hrx;have hgh:Gh N (mapT (st3 σ) (shT N tm)) (initTm 0 (vs.map (st3 σ))) (mapT (st3 σ) (initTm 0 vs++shT N tm)):=by
  constructor
  ·intro j hj
   rw[initTm_map,tget_mapT (st3_any σ),tget_mapT (st3_any σ)];rcases tget_append j (shT N tm) (initTm 0 vs) with ⟨_,e⟩|⟨hn,e⟩
   ·rw[e]
   ·rw[e,tget_shT_lt hj,tget_initTm_hi j 0 vs hn]
  ·intro j hj
   rw[tget_mapT (st3_any σ),tget_mapT (st3_any σ)];rcases tget_append j (shT N tm) (initTm 0 vs) with ⟨hn,e⟩|⟨_,e⟩
   ·have:=initTm_any j 0 vs hn
    omega
   ·rw[e]
 obtain ⟨s,r1,r2,r3⟩:=run_gh n (by simp [iLt,n2]) hgh hr;obtain ⟨i1,i2⟩:=resI_sound (s:=s) hR r3.lo n3 hrs;refine ⟨resVal rs,s.own,σ',M',EvI.intro hL (by simpa using hp) ⟨n,c,s,r1,?_,rfl⟩,?_,?_,hk⟩
 ·rw[i1,Option.map_some,resVal_st i2]
 ·rw[←r2];exact hR.sat
 ·intro j
  have e1:tg tm j=tg tm' (N+j):=by rw[tg_eq,tg_eq,←hg,tget_gh]
  rcases hR.tm (N+j) with e|e
  ·rw[e1,e];rfl
  ·rw[e1,←e,r3.hi (N+j) (by omega),tget_mapT (st3_any σ),tget_shT,←tg_eq,e1]
theorem StR.at {α:Type} {enc:α→List AV} {l:List α} {i:Nat} {vs:List AV} {K:List (List AV)→Prop} (n:Nat) (e:α) (hn:i=n) (he:vs=enc e) (hz : ∀ x,(enc x).length=vs.length) (hi:n<l.length) (h:K ((l.set n e).map enc)):StR (l.map enc) i 0 vs K:=by
 subst hn;exact StR.go e he hz hi h
theorem Bds.up {x:Int} {len:Nat} {K:Nat→Nat→Prop} (h:Nat) (hx:x=h) (hl:h≤len) (hk:K 0 h):Bds none (some x) len K:=⟨0,h,rfl,⟨by omega,by omega,by omega⟩,by omega,hk⟩
theorem Bds.dn {x:Int} {len:Nat} {K:Nat→Nat→Prop} (a:Nat) (hx:x=a) (hl:a≤len) (hk:K a len):Bds (some x) none len K:=⟨a,len,⟨by omega,by omega⟩,rfl,by omega,hk⟩
end Go.Eng

namespace Go.Eng
section
variable {K:AV→Prop} {a b:Nat} {k':IntKind}
end
section
variable {K:Int→Prop} {n:Nat}
end
theorem TbP.go {tb:List Nat} {n v:Nat} {K:Nat→Prop} (hv:tb[n]? = some v) (hk:K v):TbP tb (n:Int) K:=⟨by omega,v,by rw[Int.toNat_natCast];exact hv,hk⟩
section
variable {l:List Nat} {K:List AV→Prop}
end
end Go.Eng
namespace Go.Eng
variable {L:Lib}
theorem Ev.xE {f:Nat} {fn:AFn} {vs:List AV} {P:AV→Prop} (hL:L f=some fn) (hp:Nat.beq vs.length fn.pars=true) (hd:datAL vs=true) (h:AKM L [.code fn.body] (initTm 0 vs) [] (fun tm M => ∃ r,RetX fn r tm M∧P r)) (hs:fn.spl=false:=by rfl) : ∃ r,Ev L f vs r∧P r:=by
 obtain ⟨n,c,st',hr,σ,tm,M,hR,r,hq,hP⟩:=h (fun _ _=>(0,0)) ⟨initTm 0 vs,Own.emp⟩ ⟨fun j=>Or.inr (by rw[tg_eq];exact datAL_tg hd j),⟨(fun _ _ _ e=>by cases e),(fun _ _ _ e=>by simp [mref,mget]at e),(fun _ _ _ e=>by simp [mref,mget]at e),(fun _ _ _ _ _ _ e=>by simp [mref,mget]at e),(fun _ _ _ e=>by simp [mref,mget]at e)⟩⟩;exact ⟨r,Ev.fwd hL (beq_iff.1 hp) ⟨n,c,st',hr,RetX_sound hR hq⟩ hs,hP⟩
def opRo:AOp→Bool
 | .vrow .. | .box .. | .alloc .. | .bslice .. | .st .. | .mk .. | .app .. | .calli .. | .callv .. | .callr .. | .appo .. | .cals .. | .mkm .. | .mup .. | .apf .. | .srt .. => false
 | _=>true
def cRo:ACode→Bool
 | .skip=>true
 | .ops l _=>l.all fun a=>opRo a.op
 | .dr c _ ss=>cRo c&&ss.isEmpty
 | .scope c=>cRo c
 | .seq a b=>cRo a&&cRo b
 | .cond _ a b=>cRo a&&cRo b
 | .block _ c=>cRo c
 | .loop c=>cRo c
 | .exit _=>true
 | .ret=>true
def iRo:It→Bool
 | .code c=>cRo c
 | .drp _ ss=>ss.isEmpty
 | .blk _=>true
 | .lp c=>cRo c
theorem eff_ro {C:Cl} {ban:List Nat} {ρ:Opd→AV} {own:Own} {op:AOp} {E:Eff} (ho:opRo op=true) (h:eff C ban ρ own op=some E) : ∃ v,E = .val v:=by
 cases op<;>first|(simp [opRo]at ho;done)|skip
 all_goals simp only[eff]at h
 all_goals
  first
   | (simp only[Option.some.injEq]at h;exact ⟨_,h.symm⟩)
   | (simp only[Option.map_eq_some_iff]at h;obtain ⟨_,_,rfl⟩:=h;exact ⟨_,rfl⟩)
   | skip
 all_goals (repeat' split at h)
 all_goals
  first
   | (cases h;done)
   | (simp only[Option.some.injEq]at h;exact ⟨_,h.symm⟩)
   | (simp only[Option.map_eq_some_iff]at h;obtain ⟨_,_,rfl⟩:=h;exact ⟨_,rfl⟩)
theorem stepI_ro {C:Cl} {a:AI} (ho:opRo a.op=true) {s s':St} (h:stepI C a s=some s'):s'.own=s.own:=by
 unfold stepI at h;split at h
 ·cases he:eff C a.ban s.ev s.own a.op with
  | none=>rw[he]at h;cases h
  | some E =>
   rw[he]at h;obtain ⟨v,rfl⟩:=eff_ro ho he;simp only[Option.map_some,Option.some.injEq]at h;subst h;simp only[St.app];cases a.dst<;>rfl
 ·simp only[Option.some.injEq]at h
  subst h;cases a.dst<;>rfl
 ·cases h
theorem stepL_ro {C:Cl} : ∀ {l:List AI},(l.all fun a=>opRo a.op)=true → ∀ {s s':St},stepL C l s=some s'→s'.own=s.own
 | [],_,s,s',h=>by simp only[stepL,Option.some.injEq]at h;rw[h]
 | a::l,ho,s,s',h=>by
  simp only[List.all_cons,Bool.and_eq_true]at ho;simp only[stepL]at h;cases h1:stepI C a s with
  | none=>rw[h1]at h;cases h
  | some s1 =>
   rw[h1]at h;rw[stepL_ro ho.2 h,stepI_ro ho.1 h1]
theorem exitA_ro {id:Nat} : ∀ {k k':List It},k.all iRo=true→exitA id k=some k'→k'.all iRo=true
 | [],_,_,h=>by simp [exitA]at h
 | it::k,k',hk,h=>by
  simp only[List.all_cons,Bool.and_eq_true]at hk;cases it with
  | blk i =>
   simp only[exitA]at h;split at h
   ·cases h;exact hk.2
   ·exact exitA_ro hk.2 h
  | code c=>simp only[exitA]at h;exact exitA_ro hk.2 h
  | drp a b=>simp only[exitA]at h;exact exitA_ro hk.2 h
  | lp c=>simp only[exitA]at h;exact exitA_ro hk.2 h
theorem run_ro {C:Cl} : ∀ (n:Nat) {k:List It},k.all iRo=true → ∀ {s s':St},run C n k s=some s'→s'.own=s.own
 | 0,k,_,s,s',h=>by simp [run]at h
 | n+1,[],_,s,s',h=>by
  simp only[run,Option.some.injEq]at h;rw[h]
 | n+1,it::k,hk,s,s',h=>by
  have hk':=hk;simp only[List.all_cons,Bool.and_eq_true]at hk;obtain ⟨hi,hk⟩:=hk;cases it with
  | blk _=>simp only[run]at h;exact run_ro n hk h
  | drp ts ss =>
   have:ss=[]:=by simpa [iRo] using hi
   subst this;simp only[run]at h;rw[run_ro n hk h];rfl
  | lp c=>simp only[run]at h;exact run_ro n (by simp only[List.all_cons,Bool.and_eq_true];exact ⟨hi,hi,hk⟩) h
  | code c =>
   cases c with
   | skip=>simp only[run]at h;exact run_ro n hk h
   | ops l d =>
    simp only[run]at h;cases h1:stepL C l s with
    | none=>rw[h1]at h;cases h
    | some s1 =>
     rw[h1]at h;rw[run_ro n hk h,stepL_ro (show (l.all fun a=>opRo a.op)=true from hi) h1]
   | dr c ts ss =>
    simp only[run]at h;simp only[iRo,cRo,Bool.and_eq_true]at hi;exact run_ro n (by simp only[List.all_cons,Bool.and_eq_true];exact ⟨hi.1,hi.2,hk⟩) h
   | scope c=>simp only[run]at h;exact run_ro n (by simp only[List.all_cons,Bool.and_eq_true];exact ⟨hi,hk⟩) h
   | seq a b =>
    simp only[run]at h;simp only[iRo,cRo,Bool.and_eq_true]at hi;exact run_ro n (by simp only[List.all_cons,Bool.and_eq_true];exact ⟨hi.1,hi.2,hk⟩) h
   | cond x a b =>
    simp only[iRo,cRo,Bool.and_eq_true]at hi;simp only[run]at h;split at h
    ·exact run_ro n (by simp only[List.all_cons,Bool.and_eq_true];exact ⟨hi.1,hk⟩) h
    ·exact run_ro n (by simp only[List.all_cons,Bool.and_eq_true];exact ⟨hi.2,hk⟩) h
    ·cases h
   | block id c=>simp only[run]at h;exact run_ro n (by simp only[List.all_cons,Bool.and_eq_true];exact ⟨hi,rfl,hk⟩) h
   | loop c=>simp only[run]at h;exact run_ro n (by simp only[List.all_cons,Bool.and_eq_true];exact ⟨hi,hi,hk⟩) h
   | exit id =>
    simp only[run]at h;split at h
    ·rename_i k' he
     exact run_ro n (exitA_ro hk he) h
    ·cases h
   | ret =>
    simp only[run,Option.some.injEq]at h;rw[h]
def RetD (fn:AFn) (r:AV) (tm:Tm) (_M:Mem):Prop := ∃ rs,resI tm fn.res=some rs∧resVal rs=r
def datR:AV→Bool
 | .tup vs=>datAL vs
 | v=>datA v
theorem datR_st3 {σ:Stp} {v:AV} (h:datR v=true):st3 σ v=v:=by
 cases v with
 | tup vs =>
  simp only[st3];congr 1;simp only[datR]at h;induction vs with
  | nil=>rfl
  | cons v r ih =>
   simp only[datAL]at h;cases hv:datA v<;>simp only[hv,cond_true,cond_false]at h
   ·cases h
   ·rw[List.map_cons,ih h]
    congr 1;cases v<;>first|rfl|(simp [datA,dat]at hv;done)|skip
    rename_i cs;exact datA_st3 (σ:=σ) (v := .agg cs) hv
 | _=>exact datA_st3 (σ:=σ) h
def RoF (L:Lib) (f:Nat) (vs:List AV) (r:AV):Prop:=datR r=true∧(∀ σ:Stp,vs.map (st3 σ)=vs) ∧ ∀ own:Own,EvI L f vs own r own
theorem datAL_map {σ:Stp} : ∀ {vs:List AV},datAL vs=true→vs.map (st3 σ)=vs
 | [],_=>rfl
 | v::r,h=>by
  simp only[datAL]at h;cases hv:datA v<;>simp only[hv,cond_true,cond_false]at h
  ·cases h
  ·rw[List.map_cons,datA_st3 hv,datAL_map h]
theorem RoF.x {f:Nat} {fn:AFn} {vs:List AV} {r:AV} (hL:L f=some fn) (hp:Nat.beq vs.length fn.pars=true) (hd:datAL vs=true) (hro:cRo fn.body=true) (hlt:resLt 100000 fn.res=true) (hr:datR r=true) (h:AKM L [.code fn.body] (initTm 0 vs) [] (RetD fn r)):RoF L f vs r:=by
 refine ⟨hr,fun σ=>datAL_map hd,fun own => ?_⟩;obtain ⟨n,c,st',hrun,σ,tm,M,hR,rs,hrs,he⟩:=h (fun _ _=>(0,0)) ⟨initTm 0 vs,own⟩ ⟨fun j=>Or.inr (by rw[tg_eq];exact datAL_tg hd j),⟨(fun _ _ _ e=>by cases e),(fun _ _ _ e=>by simp [mref,mget]at e),(fun _ _ _ e=>by simp [mref,mget]at e),(fun _ _ _ _ _ _ e=>by simp [mref,mget]at e),(fun _ _ _ e=>by simp [mref,mget]at e)⟩⟩;have ho:=run_ro n (by simp [iRo,hro]) hrun;obtain ⟨i1,i2⟩:=resI_sound (N:=100000) (s:=st') hR (fun _ _=>rfl) hlt hrs;refine EvI.intro hL (beq_iff.1 hp) ⟨n,c,st',hrun,?_,ho⟩;rw[i1,Option.map_some,resVal_st i2,he,datR_st3 hr]
end Go.Eng

namespace Go.Eng
open F
attribute [local irreducible] AKM CmpP Req OpP UnP RdP LdR StR MkR AppR AppN CpyR RowP SnR Bds SlS CallP CalP FinP pw LdM GetM SetM PutM MkM AppM SnM FlP CallR MpG MpS ApfP SrtP
variable {L:Lib}
set_option maxHeartbeats 4000000
def cmpS (a b:Int):Int:=if a<b then -1 else if b<a then 1 else 0
theorem cmpS_lt {a b:Int} (h:a<b) : -1=cmpS a b:=by unfold cmpS;rw[if_pos h]
theorem cmpS_gt {a b:Int} (h:b<a):1=cmpS a b:=by unfold cmpS;rw[if_neg (by omega),if_pos h]
theorem cmpS_eq {a b:Int} (h:a=b):0=cmpS a b:=by unfold cmpS;rw[if_neg (by omega),if_neg (by omega)]
theorem ev_isNaN_int (N:NatGLib L) (a:Int):Ev L 58 [.int .i64 a] (.bool false):=by
 refine Ev.x N.cmp_isNaN_int rfl rfl ?_;(repeat' ((first|(apply CmpP.go<;>intro hc<;>try omega)|apply AKM.x)<;>conv=>whnf))
 exact FinP.b rfl
theorem ev_Compare_int (N:NatGLib L) (a b:Int):Ev L 60 [.int .i64 a,.int .i64 b] (.int .i64 (cmpS a b)):=by
 refine Ev.x N.cmp_Compare_int rfl rfl ?_;(repeat' ((first|(apply CmpP.go<;>intro hc<;>try omega)|apply AKM.x|refine CallP.go (ev_isNaN_int N _) ?_)<;>conv=>whnf))
 ·exact FinP.i (cmpS_lt (by omega))
 ·exact FinP.i (cmpS_gt (by omega))
 ·exact FinP.i (cmpS_eq (by omega))
theorem cmpL_at : ∀ (i:Nat) {x y:List Int},x.take i=y.take i→i≤x.length→i≤y.length→cmpL x y=cmpL (x.drop i) (y.drop i)
 | 0,_,_,_,_,_=>rfl
 | i+1,a::x,b::y,h,h1,h2=>by
  simp only[List.take_succ_cons,List.cons.injEq]at h;simp only[cmpL,h.1,Int.lt_irrefl,if_false,List.drop_succ_cons];exact cmpL_at i h.2 (by simpa using h1) (by simpa using h2)
 | i+1,[],_,_,h1,_=>by simp at h1
 | i+1,_::_,[],_,_,h2=>by simp at h2
theorem ev_slCompare (N:LimGLib L) (x y:List Int) (q1 q2:Bool) (hx:x.length<9223372036854775808) (hy:y.length<9223372036854775808):Ev L 424 [.sl q1 (x.map encInt),.sl q2 (y.map encInt)] (.int .i64 (cmpL x y)):=by
 refine Ev.x N.slices_Compare_int_int rfl rfl ?_;(repeat' ((first|apply LenP.go|apply AKM.x)<;>conv=>whnf))
 refine AKM.lq1 (fun i=>x.length-i) (fun (i:Nat)=>i≤x.length∧i≤y.length∧x.take i=y.take i) (fun i=>[(11,.int .i64 i)]) (fun _=>[]) 0 ⟨by omega,by omega,rfl⟩ ?_;intro i ⟨p1,p2,p3⟩ ih;have hd:=cmpL_at i p3 p1 p2;by_cases hi:i<x.length
 ·obtain ⟨a,ha⟩ : ∃ a,x[i]? = some a:=⟨_,List.getElem?_eq_getElem hi⟩
  rw[drop_cons ha]at hd;by_cases hj:i<y.length
  ·obtain ⟨b,hb⟩ : ∃ b,y[i]? = some b:=⟨_,List.getElem?_eq_getElem hj⟩
   rw[drop_cons hb]at hd;(repeat' ((first|(apply CmpP.go<;>intro hc<;>try omega)|(apply OpP.add;omega)|apply LenP.go|(refine RdP.at (by assumption) ?_ rfl ?_;omega)|apply AKM.x|refine CallP.go (ev_Compare_int N.toNatGLib _ _) ?_)<;>conv=>whnf))
   ·rw[hd]
    refine FinP.i ?_;simp only[cmpL];unfold cmpS at hc ⊢;split
    ·rfl
    ·split
     ·rfl
     ·rename_i h2 h3
      rw[if_neg h2,if_neg h3]at hc;exact absurd rfl hc
   ·have e2:a=b:=by
     unfold cmpS at hc;split at hc
     ·omega
     ·split at hc<;>omega
    refine AKM.back [] (by (conv=>whnf);exact ⟨rfl,rfl,rfl⟩) (ih (i+1) (by omega) ⟨by omega,by omega,?_⟩);rw[List.take_add_one,List.take_add_one,p3,ha,hb,e2]
  ·rw[drop_len (l:=y) (i:=i) (by omega)]at hd
   rw[hd];(repeat' ((first|(apply CmpP.go<;>intro hc<;>try omega)|apply LenP.go|(refine RdP.at (by assumption) ?_ rfl ?_;omega)|apply AKM.x)<;>conv=>whnf))
   exact FinP.i rfl
 ·rw[drop_len (l:=x) (i:=i) (by omega)]at hd
  by_cases hj:i<y.length
  ·obtain ⟨b,hb⟩ : ∃ b,y[i]? = some b:=⟨_,List.getElem?_eq_getElem hj⟩
   rw[drop_cons hb]at hd;rw[hd];(repeat' ((first|(apply CmpP.go<;>intro hc<;>try omega)|apply LenP.go|apply AKM.x)<;>conv=>whnf))
   exact FinP.i rfl
  ·rw[drop_len (by omega)]at hd
   rw[hd];(repeat' ((first|(apply CmpP.go<;>intro hc<;>try omega)|apply LenP.go|apply AKM.x)<;>conv=>whnf))
   exact FinP.i rfl
def withB:List Int→List Int→Bool
 | b::box,v::s=>decide (-b≤v∧v≤b)&&withB box s
 | _,_=>true
theorem withB_iff : ∀ {box s:List Int},s.length=box.length→(withB box s=true↔inB box s)
 | [],[],_=>by simp [withB,inB]
 | b::box,v::s,h=>by
  simp only[withB,inB,Bool.and_eq_true,decide_eq_true_eq];rw[withB_iff (by simpa using h)]
 | [],_::_,h=>by simp at h
 | _::_,[],h=>by simp at h
theorem ev_within (N:LimGLib L) (s box:List Int) (q1 q2:Bool) (hl:s.length=box.length) (hb : ∀ b∈box,0≤b∧b≤9223372036854775807) (hx:box.length<9223372036854775808):Ev L 425 [.sl q1 (s.map encInt),.sl q2 (box.map encInt)] (.bool (withB box s)):=by
 refine Ev.x N.limitcycle_within rfl rfl ?_;(repeat' ((first|apply LenP.go|apply AKM.x)<;>conv=>whnf))
 refine AKM.lq1 (fun i=>s.length-i) (fun (i:Nat)=>i≤s.length∧withB (box.drop i) (s.drop i)=withB box s) (fun i=>[(9,.int .i64 i)]) (fun _=>[]) 0 ⟨by omega,rfl⟩ ?_;intro i ⟨p1,p2⟩ ih;by_cases hi:i<s.length
 ·obtain ⟨v,hv⟩ : ∃ v,s[i]? = some v:=⟨_,List.getElem?_eq_getElem hi⟩
  obtain ⟨b,hbi⟩ : ∃ b,box[i]? = some b:=⟨_,List.getElem?_eq_getElem (by omega)⟩;have hb1:=hb b (List.mem_of_getElem? hbi);rw[drop_cons hv,drop_cons hbi,withB]at p2;(repeat' ((first|(apply CmpP.go<;>intro hc<;>try omega)|(apply OpP.add;omega)|(apply UnP.neg;omega)|(refine RdP.at (by assumption) ?_ rfl ?_;omega)|apply AKM.x)<;>conv=>whnf))
  ·rw[decide_eq_false (by omega),Bool.false_and]at p2
   exact FinP.b p2
  ·rw[decide_eq_false (by omega),Bool.false_and]at p2
   exact FinP.b p2
  ·rw[decide_eq_true (by omega),Bool.true_and]at p2
   exact AKM.bk [] (ih (i+1) (by omega) ⟨by omega,p2⟩)
 ·rw[drop_len (by omega),drop_len (by omega)]at p2
  (repeat' ((first|(apply CmpP.go<;>intro hc<;>try omega)|apply AKM.x)<;>conv=>whnf))
  exact FinP.b p2
abbrev encSt (q:Bool) (s:List Int):List AV:=[.sl q (s.map encInt)]
abbrev eCy (c:List (List Int) × List Int):List AV:=[.sl false (c.1.map (encSt false)),.sl false (c.2.map encInt)]
def minL (l:List (List Int)):Nat→Nat
 | 0=>0
 | i+1=>if cmpL (l.getD i []) (l.getD (minL l i) [])<0 then i else minL l i
theorem minL_lt (l:List (List Int)) : ∀ i,minL l i<i∨minL l i=0
 | 0 => .inr rfl
 | i+1=>by
  simp only[minL];split
  ·exact .inl (by omega)
  ·rcases minL_lt l i with h|h<;>omega
theorem minL_low (l:List (List Int)) : ∀ (i j:Nat),j<i→0≤cmpL (l.getD j []) (l.getD (minL l i) [])
 | i+1,j,h=>by
  simp only[minL];split
  ·rename_i h1
   by_cases e:j=i
   ·subst e;rw[cmpL_self];omega
   ·have h2:=minL_low l i j (by omega)
    rcases Int.lt_or_le (cmpL (l.getD j []) (l.getD i [])) 0 with h3|h3
    ·have:=cmpL_trans h3 h1;omega
    ·exact h3
  ·rename_i h1
   by_cases e:j=i
   ·subst e;omega
   ·exact minL_low l i j (by omega)
theorem getL_of {l:List (List Int)} {i:Nat} {e:List Int} (h:l[i]? = some e):l.getD i []=e:=by rw[List.getD_eq_getElem?_getD,h];rfl
def minC (c:List (List Int) × List Int):List (List Int) × List Int:=(rotL (minL c.1 c.1.length) c.1,rotL (minL c.1 c.1.length) c.2)
theorem take_snocG {α:Type} {l:List α} {i:Nat} {e:α} (h:l[i]? = some e):l.take i++[e]=l.take (i+1):=by rw[List.take_add_one,h];rfl
theorem cl_eCy (c:List (List Int) × List Int):Clean (.agg (eCy c)):=by
 simp only[Clean,CleanL,true_and,and_true];exact ⟨cleanLL_map (fun s=>by simp only[CleanL,Clean,true_and,and_true];exact cl_ints s) c.1,cl_ints c.2⟩
theorem ev_cycle (N:LimGLib L) (sts:List (List Int)) (outs:List Int) (q q1 q2:Bool) (h0:0<sts.length) (hl:outs.length=sts.length) (hb:sts.length≤1000000) (hs : ∀ s∈sts,s.length≤1000000):Ev L 427 [.sl q1 (sts.map (encSt q)),.sl q2 (outs.map encInt)] (.agg (eCy (minC (sts,outs)))):=by
 refine Ev.x N.limitcycle_cycle rfl rfl ?_;(repeat' ((first|apply LenP.go|apply AKM.x)<;>conv=>whnf))
 refine AKM.lq2 (fun i _=>sts.length-i) (fun (i m:Nat)=>i≤sts.length∧m=minL sts i) (fun i m=>[(12,.int .i64 i),(5,.int .i64 m)]) (fun _ _=>[]) 0 0 ⟨by omega,rfl⟩ ?_;intro i m ⟨p1,p2⟩ ih;by_cases hi:i<sts.length
 ·have hm:m<sts.length:=by have:=minL_lt sts i;omega
  obtain ⟨s,hsi⟩ : ∃ s,sts[i]? = some s:=⟨_,List.getElem?_eq_getElem hi⟩;obtain ⟨t,hti⟩ : ∃ t,sts[m]? = some t:=⟨_,List.getElem?_eq_getElem hm⟩;have hC:=ev_slCompare N s t q q (by have:=hs s (List.mem_of_getElem? hsi);omega) (by have:=hs t (List.mem_of_getElem? hti);omega);have hn:minL sts (i+1)=if cmpL s t<0 then i else m:=by
   simp only[minL];rw[←p2,getL_of hsi,getL_of hti]
  (repeat' ((first|(apply CmpP.go<;>intro hc<;>try omega)|(apply OpP.add;omega)|(refine RdP.at (by assumption) ?_ rfl ?_;omega)|apply AKM.x|refine CallP.go (hC) ?_)<;>conv=>whnf))
  ·rw[if_pos hc]at hn
   exact AKM.bk [] (ih (i+1) i (by omega) ⟨by omega,hn.symm⟩)
  ·rw[if_neg (by omega)]at hn
   exact AKM.bk [] (ih (i+1) m (by omega) ⟨by omega,hn.symm⟩)
 have ei:i=sts.length:=by omega
 subst ei;have hm:m<sts.length:=by have:=minL_lt sts sts.length;omega
 rw[minC,←p2];clear ih p1;have hat : ∀ i,i<sts.length → ∃ (s:List Int) (v:Int),sts[(m+i)%sts.length]? = some s∧outs[(m+i)%sts.length]? = some v∧(rotL m sts)[i]? = some s∧(rotL m outs)[i]? = some v:=fun i hi=>by
  have h1:=Nat.mod_lt (m+i) h0;obtain ⟨s,hs⟩ : ∃ s,sts[(m+i)%sts.length]? = some s:=⟨_,List.getElem?_eq_getElem h1⟩;obtain ⟨v,hv⟩ : ∃ v,outs[(m+i)%sts.length]? = some v:=⟨_,List.getElem?_eq_getElem (by omega)⟩;exact ⟨s,v,hs,hv,(rot_get hm hi).trans hs,(rot_get (by omega) (by omega)).trans (by rw[hl];exact hv)⟩
 have hrl:(rotL m sts).length=sts.length:=rot_len (by omega);have hrl2:(rotL m outs).length=sts.length:=by rw[rot_len (by omega),hl]
 have hrs : ∀ s∈rotL m sts,s.length≤1000000:=fun s h=>hs s ((rot_perm m sts).mem_iff.1 h)
 generalize rotL m sts=R at *;generalize rotL m outs=O at *;have hmod : ∀ i:Nat,(((m:Int)+(i:Int))%(sts.length:Int)).toNat=(m+i)%sts.length:=fun i=>by rw[←Int.natCast_add,←Int.natCast_emod,Int.toNat_natCast]
 (repeat' ((first|(apply CmpP.go<;>intro hc<;>try omega)|apply LenP.go|apply AKM.x)<;>conv=>whnf))
 refine AKM.lp ?_;obtain ⟨s,v,a1,a2,a3,a4⟩:=hat 0 h0;have hsl:=hrs s (List.mem_of_getElem? a3);have e3:R.take 1=[s]:=by rw[List.take_add_one,a3];rfl
 have e4:O.take 1=[v]:=by rw[List.take_add_one,a4];rfl
 (repeat' ((first|(apply CmpP.go<;>intro hc<;>try omega)|(apply OpP.add;omega)|(refine OpP.rem ?_ (fun _ _ _ => ?_) (fun _ _ _ _ => ?_);omega;all_goals try omega)|apply LenP.go|(refine RdP.at (by assumption) ?_ rfl ?_;omega)|apply AKM.x)<;>conv=>whnf))
 refine AppR.many (enc:=encInt) (l:=[]) (l':=s) rfl (fun _=>rfl) (by simp;omega) (by simp;omega) ?_;rw[List.nil_append];(conv=>whnf)
 skip
 refine Req.go ⟨by rw[List.length_map],by omega⟩ ?_;(conv=>whnf)
 (repeat' ((first|(refine RdP.at (by assumption) ?_ rfl ?_;omega)|apply RowP.e1)<;>conv=>whnf))
 refine AppN.one (enc:=encInt) v rfl rfl (by omega) ?_;(conv=>whnf)
 (repeat' ((first|(apply OpP.add;omega)|fail)<;>conv=>whnf))
 refine AKM.loop1 (fun i=>sts.length-i) (fun (i:Nat)=>1≤i∧i≤sts.length) (fun i=>[(29,.int .i64 i)]) (fun i=>[(7,7,.bx [.row 47 0 1 0 i,.row 56 0 1 0 i]),(47,47,.mx (mxR 1 encInt (R.take i))),(56,56,.rw 1 ((O.take i).map encInt))]) [] [] 1 (by rw[e3,e4];exact (by (conv=>whnf);exact ⟨rfl,rfl,rfl⟩)) (by omega) ?_;intro i ⟨p1,p2⟩ ih;by_cases hi:i<sts.length
 ·obtain ⟨s,v,a1,a2,a3,a4⟩:=hat i hi
  have hsl:=hrs s (List.mem_of_getElem? a3);have e3:=take_snocG a3;have e4:=take_snocG a4;have hlR:(R.take i).length=i:=by rw[List.length_take];omega
  have hlO:(O.take i).length=i:=by rw[List.length_take];omega
  have hrm:=hmod i;(repeat' ((first|(apply CmpP.go<;>intro hc<;>try omega)|(apply OpP.add;omega)|(refine OpP.rem ?_ (fun _ _ _ => ?_) (fun _ _ _ _ => ?_);omega;all_goals try omega)|apply LenP.go|(refine RdP.at (by assumption) ?_ rfl ?_;omega)|apply AKM.x)<;>conv=>whnf))
  refine AppR.many (enc:=encInt) (l:=[]) (l':=s) rfl (fun _=>rfl) (by simp;omega) (by simp;omega) ?_;rw[List.nil_append];(conv=>whnf)
  skip
  refine Req.go (by rw[List.length_map]) ?_;refine AppM.go (z:=1) (en:=encInt) (r:=s) (by omega) (by omega) (by omega) ?_;rw[e3];(conv=>whnf)
  (repeat' ((first|(refine RdP.at (by assumption) ?_ rfl ?_;omega)|apply RowP.e1)<;>conv=>whnf))
  refine AppR.one (enc:=encInt) v rfl (by omega) rfl (by omega) (by omega) ?_;rw[e4,show (O.take (i+1)).length=i+1 by rw[List.length_take];omega,show (R.take (i+1)).length=i+1 by rw[List.length_take];omega];(conv=>whnf)
  (repeat' ((first|(apply OpP.add;omega)|fail)<;>conv=>whnf))
  exact AKM.bk [(47,1000047),(56,1000056)] (ih (i+1) (by omega) (by omega))
 have ei:i=sts.length:=by omega
 rw[ei,List.take_of_length_le (by omega),List.take_of_length_le (by omega)];clear ih p1 p2 hat;(repeat' ((first|(apply CmpP.go<;>intro hc<;>try omega)|apply AKM.x)<;>conv=>whnf))
 refine SnM.all (fun _=>rfl) rfl hrl.symm ?_;(conv=>whnf)
 refine SnR.all (fun _=>rfl) rfl hrl2.symm ?_;(conv=>whnf)
 exact FinP.go rfl (cl_eCy (R,O))
def tooS:List Int→Int→Bool
 | [],_=>false
 | b::r,a=>if 4096<a*(2*b+1) then true else tooS r (a*(2*b+1))
def checkS (n:Nt) (x:Int) (box:List Int):Int :=
 if netB n then (if (box.length:Int)=n.s then (if box.all (fun b=>decide (0≤b)) then (if FT n.d x then (if wordsB n.d box then (if tooS box 1 then 5 else 0) else 17) else 17) else 1) else 1) else 2
theorem ft_small {w:Wd} {v:Int} (h:FT w v) : -8388608≤v∧v≤8388607:=by
 obtain ⟨h1,h2,h3⟩:=h;obtain ⟨g1,g2,g3,g4⟩:=low_high h1;omega
theorem ev_check (I:FixedLib L) (J:NetLib L) (N:LimGLib L) (n:Nt) (x:Int) (box:List Int) (q:Bool) (hb:box.length<9223372036854775808):Ev L 428 [.agg (encN n),.int .i64 x,.sl q (box.map encInt)] (.int .i64 (checkS n x box)):=by
 refine Ev.x N.limitcycle_check rfl rfl ?_;(repeat' ((first|(apply CmpP.go<;>intro hc<;>try omega)|apply LenP.go|apply AKM.x|refine CallP.B (ev_network_Valid n I J) (fun hf => ?_) (fun hf => ?_))<;>conv=>whnf))
 ·rw[checkS,if_pos hf,if_neg hc]
  exact FinP.i rfl
 ·rw[checkS,if_pos hf,if_pos hc]
  refine AKM.lq1 (fun i=>box.length-i) (fun (i:Nat)=>i≤box.length∧box.all (fun b=>decide (0≤b))=(box.drop i).all fun b=>decide (0≤b)) (fun i=>[(24,.int .i64 i)]) (fun _=>[]) 0 ⟨by omega,rfl⟩ ?_;intro i ⟨p1,p2⟩ ih;by_cases hi:i<box.length
  ·obtain ⟨b,hbi⟩ : ∃ b,box[i]? = some b:=⟨_,List.getElem?_eq_getElem hi⟩
   rw[drop_cons hbi,List.all_cons]at p2;(repeat' ((first|(apply CmpP.go<;>intro hc<;>try omega)|(apply OpP.add;omega)|(refine RdP.at (by assumption) ?_ rfl ?_;omega)|apply AKM.x)<;>conv=>whnf))
   ·rw[decide_eq_false (by omega),Bool.false_and]at p2
    rw[p2];exact FinP.i rfl
   ·rw[decide_eq_true (by omega),Bool.true_and]at p2
    exact AKM.bk [] (ih (i+1) (by omega) ⟨by omega,p2⟩)
  rw[drop_len (by omega),List.all_nil]at p2;rw[p2,if_pos rfl];have ei:i=box.length:=by omega
  subst ei;have h0 : ∀ b∈box,0≤b:=fun b h=>of_decide_eq_true (List.all_eq_true.1 p2 b h)
  clear ih p1 p2;(repeat' ((first|(apply CmpP.go<;>intro hc<;>try omega)|apply LenP.go|apply AKM.x|refine CallP.b (ev_fixed_Fits _ I _) (fun hf => ?_) (fun hf => ?_))<;>conv=>whnf))
  ·rw[if_pos hf]
   refine AKM.lq1 (fun i=>box.length-i) (fun (i:Nat)=>i≤box.length∧wordsB n.d box=wordsB n.d (box.drop i)) (fun i=>[(38,.int .i64 i)]) (fun _=>[]) 0 ⟨by omega,rfl⟩ ?_;intro i ⟨p1,p2⟩ ih;by_cases hi:i<box.length
   ·obtain ⟨b,hbi⟩ : ∃ b,box[i]? = some b:=⟨_,List.getElem?_eq_getElem hi⟩
    rw[drop_cons hbi,wordsB,wordsB,List.all_cons]at p2;(repeat' ((first|(apply CmpP.go<;>intro hc<;>try omega)|(apply OpP.add;omega)|(refine RdP.at (by assumption) ?_ rfl ?_;omega)|apply AKM.x|refine CallP.b (ev_fixed_Fits _ I _) (fun hf => ?_) (fun hf => ?_))<;>conv=>whnf))
    ·rw[decide_eq_true hf,Bool.true_and]at p2
     exact AKM.bk [] (ih (i+1) (by omega) ⟨by omega,p2⟩)
    ·rw[decide_eq_false hf,Bool.false_and]at p2
     rw[show wordsB n.d box=false from p2];exact FinP.i rfl
   rw[drop_len (by omega)]at p2;have p2:wordsB n.d box=true:=p2;rw[if_pos p2];have ei:i=box.length:=by omega
   subst ei;have hw : ∀ b∈box,b≤8388607:=fun b h=>(ft_small (of_decide_eq_true (List.all_eq_true.1 p2 b h))).2
   clear ih p1 p2;(repeat' ((first|(apply CmpP.go<;>intro hc<;>try omega)|apply LenP.go|apply AKM.x)<;>conv=>whnf))
   refine AKM.lq2 (fun i _=>box.length-i) (fun (i:Nat) (a:Int)=>i≤box.length∧0≤a∧a≤4096∧tooS box 1=tooS (box.drop i) a) (fun i a=>[(50,.int .i64 i),(11,.int .i64 a)]) (fun _ _=>[]) 0 1 ⟨by omega,by omega,by omega,rfl⟩ ?_;intro i a ⟨p1,p2,p3,p4⟩ ih;by_cases hi:i<box.length
   ·obtain ⟨b,hbi⟩ : ∃ b,box[i]? = some b:=⟨_,List.getElem?_eq_getElem hi⟩
    have hb0:=h0 b (List.mem_of_getElem? hbi);have hb1:=hw b (List.mem_of_getElem? hbi);have hm0:0≤a*(2*b+1):=Int.mul_nonneg p2 (by omega);have hm1:a*(2*b+1)≤4096*16777215:=Int.mul_le_mul p3 (by omega) (by omega) (by omega);rw[drop_cons hbi,tooS]at p4;(repeat' ((first|(apply CmpP.go<;>intro hc<;>try omega)|(apply OpP.add;omega)|(apply OpP.mul;omega)|(refine RdP.at (by assumption) ?_ rfl ?_;omega)|apply AKM.x)<;>conv=>whnf))
    ·rw[if_pos (by omega)]at p4
     rw[p4];exact FinP.i rfl
    ·rw[if_neg (by omega)]at p4
     exact AKM.back [] (by (conv=>whnf);exact ⟨rfl,rfl,rfl⟩) (ih (i+1) _ (by omega) ⟨by omega,hm0,by omega,p4⟩)
   rw[drop_len (by omega),tooS]at p4;rw[p4];(repeat' ((first|(apply CmpP.go<;>intro hc<;>try omega)|apply AKM.x)<;>conv=>whnf))
   exact FinP.i rfl
  ·rw[if_neg hf]
   exact FinP.i rfl
 ·rw[checkS,if_neg (by rw[hf];simp)]
  exact FinP.i rfl
theorem ev_Cycles_1 (N:LimGLib L) (c d:List (List Int) × List Int) (s t:List Int) (hs:c.1[0]? = some s) (ht:d.1[0]? = some t) (hsl:s.length<9223372036854775808) (htl:t.length<9223372036854775808) :
  Ev L 435 [.agg (eCy c),.agg (eCy d)] (.int .i64 (cmpL s t)):=by
 obtain ⟨cs,co⟩:=c;obtain ⟨ds,do'⟩:=d;dsimp only at hs ht;show Ev L 435 [.agg [.sl false (cs.map (encSt false)),.sl false (co.map encInt)],.agg [.sl false (ds.map (encSt false)),.sl false (do'.map encInt)]] _;refine Ev.x N.limitcycle_Cycles_1 rfl rfl ?_;have hC:=ev_slCompare N s t false false hsl htl;(repeat' ((first|(refine RdP.at (by assumption) ?_ rfl ?_;omega)|apply AKM.x|refine CallP.go (hC) ?_)<;>conv=>whnf))
 exact FinP.i rfl
end Go.Eng

namespace Go.Eng
open F
attribute [local irreducible] AKM CmpP Req OpP UnP RdP LdR StR MkR AppR AppN CpyR RowP SnR Bds SlS CallP CalP FinP pw LdM GetM SetM PutM MkM AppM SnM FlP CallR MpG MpS ApfP SrtP
set_option maxHeartbeats 4000000
variable {L:Lib}
section
variable (n:Nt)
end
end Go.Eng

namespace Go.Eng
open F
attribute [local irreducible] AKM CmpP Req OpP UnP RdP LdR StR MkR AppR AppN CpyR RowP SnR Bds SlS CallP CalP FinP pw LdM GetM SetM PutM MkM AppM SnM FlP CallR MpG MpS ApfP SrtP
variable {L:Lib}
set_option maxHeartbeats 1000000
theorem ev_direct_wrong (I:FixedLib L) (D:DirectGLib L) (b a:List Int) (q1 q2:Bool) (d c:Wd) (hd:WV d) (hc:WV c) (l1:1≤b.length∧b.length≤49) (l2:a.length≤8) (hb : ∀ v∈b,FT c v) (ha : ∀ v∈a,FT c v∧FT c (-v)) :
  Ev L 46 [.sl q1 (b.map encInt),.sl q2 (a.map encInt),.agg (encW d),.agg (encW c)] (.int .i64 0):=by
 have hav : ∀ v∈a,-16777216≤v∧v≤16777216:=fun v hv=>by
  obtain ⟨_,e1,e2⟩:=(ha v hv).1;obtain ⟨h1,h2,h3,h4⟩:=low_high hc;omega
 refine Ev.x D.direct_wrong rfl rfl ?_;(repeat' ((first|(apply CmpP.go<;>intro hc<;>try omega)|apply LenP.go|apply AKM.x|refine CallP.b (ev_fixed_Valid ⟨_,_,_,_⟩ I) (fun hf => ?_) (fun hf => ?_))<;>conv=>whnf))
 all_goals try (exact absurd hd (by assumption))
 all_goals try (exact absurd hc (by assumption))
 refine AKM.lq1 (fun i=>b.length-i) (fun (i:Nat)=>i≤b.length) (fun i=>[(36,.int .i64 i)]) (fun _=>[]) 0 (by omega) ?_;intro i p1 ih;(repeat' ((first|(apply CmpP.go<;>intro hc<;>try omega)|(apply OpP.add;omega)|apply LenP.go|(refine RdP.nat ?_ (fun _=>rfl) (fun e he => ?_);omega)|apply AKM.x|refine CallP.b (ev_fixed_Fits ⟨_,_,_,_⟩ I _) (fun hf => ?_) (fun hf => ?_))<;>conv=>whnf))
 ·exact AKM.bk [] (ih (i+1) (by omega) (by omega))
 ·exact absurd (hb _ (List.mem_of_getElem? he)) hf
 refine AKM.lq1 (fun i=>a.length-i) (fun (i:Nat)=>i≤a.length) (fun i=>[(47,.int .i64 i)]) (fun _=>[]) 0 (by omega) ?_;intro i p1 ih;(repeat' ((first|(apply CmpP.go<;>intro hc<;>try omega)|(refine RdP.nat ?_ (fun _=>rfl) (fun e he => ?_);omega)|apply AKM.x|refine CallP.b (ev_fixed_Fits ⟨_,_,_,_⟩ I _) (fun hf => ?_) (fun hf => ?_))<;>conv=>whnf))
 ·have hfe:=hav _ (List.mem_of_getElem? he)
  (repeat' ((first|(apply OpP.add;omega)|(apply UnP.neg;omega)|refine CallP.b (ev_fixed_Fits ⟨_,_,_,_⟩ I _) (fun hf => ?_) (fun hf => ?_))<;>conv=>whnf))
  ·exact AKM.bk [] (ih (i+1) (by omega) (by omega))
  ·exact absurd (ha _ (List.mem_of_getElem? he)).2 hf
 ·exact absurd (ha _ (List.mem_of_getElem? he)).1 hf
 ·exact FinP.i rfl
theorem cl_ts (ts:List (Int × Int)):CleanLL (ts.map encT):=cleanLL_map (fun _=>by simp [CleanL,Clean]) ts
def rowD (l:List Int) (sg fr:Int):List (Int × Int):=(List.range l.length).map fun i:Nat=>(fr+i,sg*l.getD i 0)
theorem rowD_len (l:List Int) (sg fr:Int):(rowD l sg fr).length=l.length:=by simp [rowD]
theorem rowD_at {l:List Int} {i:Nat} {v:Int} (sg fr:Int) (h:l[i]? = some v):(rowD l sg fr)[i]? = some (fr+i,sg*v):=by
 have hi:=(List.getElem?_eq_some_iff.1 h).1;simp only[rowD,List.getElem?_map,List.getElem?_range hi,Option.map_some,List.getD_eq_getElem?_getD,h,Option.getD_some]
theorem ev_direct_row (D:DirectGLib L) (l:List Int) (q:Bool) (sg fr:Int) (hl:l.length≤1000000) (hs:sg=1∨sg = -1) (hf:0≤fr∧fr≤1000000) (hv : ∀ v∈l,-1000000000000≤v∧v≤1000000000000):Ev L 47 [.sl q (l.map encInt),.int .i64 sg,.int .i64 fr] (.sl false ((rowD l sg fr).map encT)):=by
 have hF:=rowD_len l sg fr;refine Ev.x D.direct_row rfl rfl ?_;(repeat' ((first|apply LenP.go|apply AKM.x)<;>conv=>whnf))
 refine MkR.go (enc:=encT) (0,0) l.length rfl rfl (by omega) ?_;(conv=>whnf)
 (repeat' (apply LenP.go<;>conv=>whnf))
 refine AKM.loop2 (fun i _=>l.length-i) (fun (i:Nat) (o:List (Int × Int))=>i≤l.length∧o.length=(rowD l sg fr).length∧o.take i=(rowD l sg fr).take i) (fun i o=>[(7,.row 12 0 2 0 o.length),(15,.int .i64 i)]) (fun i o=>[(12,12,.rw 2 (o.map encT))]) [] [] 0 (List.replicate l.length (0,0)) (by rw[List.length_replicate];exact (by (conv=>whnf);exact ⟨rfl,rfl,rfl⟩)) ⟨by omega,by simp [hF],by simp⟩ ?_;intro i o ⟨p1,p2,p3⟩ ih;by_cases hi:i<l.length
 ·obtain ⟨v,hvi⟩ : ∃ v,l[i]? = some v:=⟨_,List.getElem?_eq_getElem hi⟩
  have hvr:=hv v (List.mem_of_getElem? hvi);have hmul : -1000000000000≤sg*v∧sg*v≤1000000000000:=by rcases hs with rfl|rfl<;>omega
  obtain ⟨f1,f2⟩:=fill_step p2 p3 (rowD_at sg fr hvi);(repeat' ((first|(apply CmpP.go<;>intro hc<;>try omega)|(apply Req.go;omega)|(apply OpP.add;omega)|(apply OpP.mul;omega)|(refine RdP.at (by assumption) ?_ rfl ?_;omega)|apply AKM.x)<;>conv=>whnf))
  refine StR.nat (enc:=encT) (fr+i,sg*v) rfl (fun _=>rfl) (by omega) ?_;(conv=>whnf)
  (repeat' ((first|(apply OpP.add;omega)|fail)<;>conv=>whnf))
  exact AKM.back [] (by rw[List.length_set];exact (by (conv=>whnf);exact ⟨rfl,rfl,rfl⟩)) (ih (i+1) (o.set i (fr+i,sg*v)) (by omega) ⟨by omega,f1,f2⟩)
 ·have ho:=fill_done p2 p3 (by omega)
  (repeat' ((first|(apply CmpP.go<;>intro hc<;>try omega)|(refine SnR.all (fun _=>rfl) rfl ?_ ?_;(first|rfl|simp))|apply AKM.x)<;>conv=>whnf))
  exact FinP.go (by rw[ho]) (by simp [Clean,cl_ts])
def joinD (l:List Nd):List (Int × Int):=l.flatMap fun n=>n.ts
theorem ev_direct_join (D:DirectGLib L) (l:List Nd) (q:Bool) (hl1:(joinD l).length≤1000000) (hl:l.length≤1000000):Ev L 48 [.sl q (l.map encNd)] (.sl false ((joinD l).map encT)):=by
 refine Ev.x D.direct_join rfl rfl ?_;(repeat' ((first|apply LenP.go|apply AKM.x)<;>conv=>whnf))
 refine AKM.lq2 (fun i _=>l.length-i) (fun (i:Nat) (o:List (Int × Int))=>i≤l.length∧o=joinD (l.take i)) (fun i o=>[(3,.row 3 0 2 0 o.length),(8,.int .i64 i)]) (fun i o=>[(3,3,.rw 2 (o.map encT))]) 0 [] ⟨by omega,rfl⟩ ?_;intro i o ⟨p1,p2⟩ ih;(repeat' ((first|(apply CmpP.go<;>intro hc<;>try omega)|(refine RdP.nat ?_ (fun _=>rfl) (fun e he => ?_);omega)|(refine SnR.all (fun _=>rfl) rfl ?_ ?_;(first|rfl|simp))|apply AKM.x)<;>conv=>whnf))
 ·have hj:joinD (l.take (i+1))=o++e.ts:=by
   rw[List.take_add_one,he,p2];simp [joinD]
  have hle:o.length+e.ts.length≤1000000:=by
   have:joinD l=joinD (l.take (i+1))++joinD (l.drop (i+1)):=by
    unfold joinD;rw[←List.flatMap_append,List.take_append_drop]
   rw[this,hj]at hl1;simp at hl1;omega
  refine AppR.many (enc:=encT) rfl (fun _=>rfl) (by omega) (by omega) ?_;(conv=>whnf)
  (repeat' ((first|(apply OpP.add;omega)|fail)<;>conv=>whnf))
  exact AKM.back [(3,14)] (by (conv=>whnf);exact ⟨rfl,rfl,rfl⟩) (ih (i+1) _ (by omega) ⟨by omega,hj.symm⟩)
 ·rw[List.take_of_length_le (by omega)]at p2
  exact FinP.go (by rw[p2]) (by simp [Clean,cl_ts])
theorem cl_nds : ∀ (l:List Nd),(∀ n∈l,n.q=false)→CleanLL (l.map encNd)
 | [],_=>by simp [CleanLL]
 | n::r,h=>by
  simp only[List.map_cons,CleanLL,CleanL,Clean,and_true];exact ⟨⟨h n (by simp),cl_ts _⟩,cl_nds r fun m hm=>h m (List.mem_cons_of_mem _ hm)⟩
theorem encN_clean (n:Nt) (h1:n.qn=false) (h2:n.qx=false) (h3 : ∀ m∈n.nodes,m.q=false):CleanL (encN n):=by
 simp only[CleanL,Clean,true_and,and_true];exact ⟨⟨h1,cl_nds _ h3⟩,h2,cl_ints _⟩
theorem netE_clean (n:Nt) (h1:n.qn=false) (h2:n.qx=false) (h3 : ∀ m∈n.nodes,m.q=false):Clean (.tup [.agg (encN n),.int .i64 0]):=by
 have h:=encN_clean n h1 h2 h3;simp only[Clean,CleanL,and_true,true_and]at h ⊢;exact h
def delayS (n:Nat) (first source:Int):List Int:=(List.range n).map fun i:Nat=>if i=0 then source else first+i-1
theorem delayS_at {n i:Nat} {first source:Int} (h:i<n):(delayS n first source)[i]? = some (if i=0 then source else first+i-1):=by
 simp only[delayS,List.getElem?_map,List.getElem?_range h,Option.map_some]
theorem FT_rng {c:Wd} (hc:WV c) {v:Int} (h:FT c v) : -1000000000000≤v∧v≤1000000000000:=by
 obtain ⟨_,e1,e2⟩:=h;obtain ⟨h1,h2,h3,h4⟩:=low_high hc;omega
def formOneS (b a:List Int) (d c:Wd):Nt :=
 ⟨d,c,((b.length-1+a.length:Nat):Int),false,[⟨false,rowD b 1 0++rowD a (-1) b.length⟩],false,delayS (b.length-1) 1 0++delayS a.length b.length ((b.length+a.length:Nat):Int),((b.length+a.length:Nat):Int)⟩
theorem ev_direct_FormOne (I:FixedLib L) (D:DirectGLib L) (b a:List Int) (q1 q2:Bool) (d c:Wd) (hd:WV d) (hc:WV c) (l1:1≤b.length∧b.length≤49) (l2:a.length≤8) (hb : ∀ v∈b,FT c v) (ha : ∀ v∈a,FT c v∧FT c (-v)) :
  Ev L 50 [.sl q1 (b.map encInt),.sl q2 (a.map encInt),.agg (encW d),.agg (encW c)] (.tup [.agg (encN (formOneS b a d c)),.int .i64 0]):=by
 have hw:=fun q q'=>ev_direct_wrong I D b a q q' d c hd hc l1 l2 hb ha
 have r1:=fun q=>ev_direct_row D b q 1 0 (by omega) (Or.inl rfl) (by omega) (fun v hv=>FT_rng hc (hb v hv))
 have r2:=fun q=>ev_direct_row D a q (-1) ((b.length:Int)-1+1) (by omega) (Or.inr rfl) (by omega) (fun v hv=>FT_rng hc (ha v hv).1)
 have r3:=fun q q' q''=>ev_direct_join D [⟨q,rowD b 1 0⟩,⟨q',rowD a (-1) ((b.length:Int)-1+1)⟩] q'' (by simp [joinD,rowD_len];omega) (by simp)
 generalize hF:delayS (b.length-1) 1 0++delayS a.length b.length ((b.length+a.length:Nat):Int)=F;have hFl:F.length=b.length-1+a.length:=by rw[←hF];simp [delayS]
 have hF1 : ∀ i:Nat,i<b.length-1→F[i]? = some (if i=0 then (0:Int) else 1+i-1):=fun i hi=>by
  rw[←hF,List.getElem?_append_left (by simp [delayS];omega)];exact delayS_at hi
 have hF2 : ∀ i:Nat,i<a.length→F[b.length-1+i]? = some (if i=0 then ((b.length+a.length:Nat):Int) else b.length+i-1):=fun i hi=>by
  rw[←hF,List.getElem?_append_right (by simp [delayS])];have:b.length-1+i-(delayS (b.length-1) 1 0).length=i:=by simp [delayS]
  rw[this];exact delayS_at hi
 refine Ev.x D.direct_FormOne rfl rfl ?_;(repeat' ((first|(apply CmpP.go<;>intro hc<;>try omega)|(apply OpP.add;omega)|(apply OpP.sub;omega)|apply LenP.go|apply AKM.x|refine CallP.go (hw _ _) ?_)<;>conv=>whnf))
 refine MkR.go (enc:=encInt) 0 (b.length-1+a.length) rfl (by omega) (by omega) ?_;(conv=>whnf)
 (repeat' ((first|(apply OpP.add;omega)|refine SnR.e2 rfl rfl ?_|refine CallP.go (r1 _) ?_|refine CallP.go (r2 _) ?_|refine CallP.go (r3 _ _ _) ?_)<;>conv=>whnf))
 refine Bds.up (b.length-1) (by omega) (by omega) ?_;(conv=>whnf)
 refine CalP.walk 1000 D.direct_delay rfl rfl ?_;(repeat' (apply AKM.x<;>conv=>whnf))
 refine AKM.lq2 (fun i _=>b.length-1-i) (fun (i:Nat) (o:List Int)=>i≤b.length-1∧o.length=F.length∧o.take i=F.take i) (fun i o=>[(9,.int .i64 i)]) (fun i o=>[(34,34,.rw 1 (o.map encInt))]) 0 (List.replicate (b.length-1+a.length) 0) ⟨by omega,by simp [hFl],by simp⟩ ?_;intro i o ⟨p1,p2,p3⟩ ih;(repeat' ((first|(apply CmpP.go<;>intro hc<;>try omega)|(apply Req.go;omega)|(apply OpP.add;omega)|(apply OpP.sub;omega)|apply AKM.x)<;>conv=>whnf))
 ·obtain ⟨f1,f2⟩:=fill_step p2 p3 (hF1 i (by omega))
  refine StR.at i (if i=0 then (0:Int) else 1+i-1) (by omega) (by rw[if_pos (by omega)]) (fun _=>rfl) (by omega) ?_;(conv=>whnf)
  (repeat' ((first|(apply OpP.add;omega)|fail)<;>conv=>whnf))
  exact AKM.back [] (by (conv=>whnf);exact ⟨rfl,rfl,rfl⟩) (ih (i+1) _ (by omega) ⟨by omega,f1,f2⟩)
 ·obtain ⟨f1,f2⟩:=fill_step p2 p3 (hF1 i (by omega))
  refine StR.at i (if i=0 then (0:Int) else 1+i-1) (by omega) (by rw[if_neg (by omega)]) (fun _=>rfl) (by omega) ?_;(conv=>whnf)
  (repeat' ((first|(apply OpP.add;omega)|fail)<;>conv=>whnf))
  exact AKM.back [] (by (conv=>whnf);exact ⟨rfl,rfl,rfl⟩) (ih (i+1) _ (by omega) ⟨by omega,f1,f2⟩)
 obtain rfl:i=b.length-1:=by omega
 refine ⟨rfl,_,rfl,?_⟩;(conv=>whnf)
 skip
 refine Bds.dn (b.length-1) (by omega) (by omega) ?_;(conv=>whnf)
 (repeat' ((first|(apply OpP.add;omega)|fail)<;>conv=>whnf))
 refine CalP.walk 1000 D.direct_delay rfl rfl ?_;(repeat' (apply AKM.x<;>conv=>whnf))
 refine AKM.lq2 (fun i _=>a.length-i) (fun (i:Nat) (o:List Int)=>i≤a.length∧o.length=F.length∧o.take (b.length-1+i)=F.take (b.length-1+i)) (fun i o=>[(9,.int .i64 i)]) (fun i o=>[(34,34,.rw 1 (o.map encInt))]) 0 o ⟨by omega,p2,p3⟩ ?_;clear p1 p2 p3 ih;intro i o ⟨p1,p2,p3⟩ ih;(repeat' ((first|(apply CmpP.go<;>intro hc<;>try omega)|(apply Req.go;omega)|(apply OpP.add;omega)|(apply OpP.sub;omega)|apply AKM.x)<;>conv=>whnf))
 ·obtain ⟨f1,f2⟩:=fill_step p2 p3 (hF2 i (by omega))
  refine StR.at (b.length-1+i) (if i=0 then ((b.length+a.length:Nat):Int) else b.length+i-1) (by omega) (by rw[if_pos (by omega)];simp only[List.cons.injEq,AV.int.injEq,true_and,and_true];omega) (fun _=>rfl) (by omega) ?_;(conv=>whnf)
  (repeat' ((first|(apply OpP.add;omega)|fail)<;>conv=>whnf))
  exact AKM.back [] (by (conv=>whnf);exact ⟨rfl,rfl,rfl⟩) (ih (i+1) _ (by omega) ⟨by omega,f1,f2⟩)
 ·obtain ⟨f1,f2⟩:=fill_step p2 p3 (hF2 i (by omega))
  refine StR.at (b.length-1+i) (if i=0 then ((b.length+a.length:Nat):Int) else b.length+i-1) (by omega) (by rw[if_neg (by omega)];simp only[List.cons.injEq,AV.int.injEq,true_and,and_true];omega) (fun _=>rfl) (by omega) ?_;(conv=>whnf)
  (repeat' ((first|(apply OpP.add;omega)|fail)<;>conv=>whnf))
  exact AKM.back [] (by (conv=>whnf);exact ⟨rfl,rfl,rfl⟩) (ih (i+1) _ (by omega) ⟨by omega,f1,f2⟩)
 have ho:=fill_done p2 p3 (by omega);subst ho;refine ⟨rfl,_,rfl,?_⟩;(conv=>whnf)
 (repeat' (refine SnR.e1 rfl ?_<;>conv=>whnf))
 refine SnR.all (enc:=encInt) (fun _=>rfl) rfl hFl.symm ?_;(conv=>whnf)
 skip
 have e1:(b.length:Int)-1+1=b.length:=by omega
 have e2:(b.length:Int)-1+a.length=((b.length-1+a.length:Nat):Int):=by omega
 have e3:(b.length:Int)-1+a.length+1=((b.length+a.length:Nat):Int):=by omega
 refine FinP.go ?_ ?_
 ·rw[e1,e3,e2]
  simp only[formOneS,hF,List.map_cons,List.map_nil,joinD,List.flatMap_cons,List.flatMap_nil,List.append_nil];rfl
 ·exact netE_clean (formOneS b a d c) rfl rfl (by simp [formOneS])
end Go.Eng

namespace Go.Eng
def resLtC (N:Nat):List ARes→Bool
 | []=>true
 | .tmp t::r=>Nat.blt t N&&resLtC N r
 | .cell t _ _::r=>Nat.blt t N&&resLtC N r
theorem resOf_lo {N:Nat} {s s':St} (ho:s.own=s'.own) (hlo : ∀ j,j<N→tget s'.tm j=tget s.tm j) : ∀ {res:List ARes},resLtC N res=true→res.mapM (resOf s)=res.mapM (resOf s')
 | [],_=>rfl
 | .tmp t::r,h=>by
  simp only[resLtC,Bool.and_eq_true]at h;have:=resOf_lo ho hlo h.2
  simp only[List.mapM_cons,resOf,hlo t (blt_iff.1 h.1),this]
 | .cell t agg n::r,h=>by
  simp only[resLtC,Bool.and_eq_true]at h;have:=resOf_lo ho hlo h.2
  simp only[List.mapM_cons,resOf,hlo t (blt_iff.1 h.1),this,ho]
def RetC (N:Nat) (fn:AFn) (tm:Tm) (K:AV→Mem→Prop) (tm':Tm) (M':Mem):Prop:=gh N tm'=tm∧resLX tm' M' fn.res (fun rs=>rsv rs fun v=>K v M')
theorem CalP.walkC {L:Lib} {f:Nat} {fn:AFn} {vs:List AV} {tm:Tm} {M:Mem} {K:AV→Mem→Prop} (N:Nat) (hL:L f=some fn) (hp:Nat.beq vs.length fn.pars=true) (hN:(Nat.ble fn.pars N&&(cLt N fn.body&&resLtC N fn.res))=true)
  (h:AKM L [.code fn.body] (initTm 0 vs++shT N tm) M (RetC N fn tm K)):CalP L f vs tm M K:=by
 intro σ own hs;simp only[Bool.and_eq_true]at hN;obtain ⟨n1,n2,n3⟩:=hN;have n1:=Nat.le_of_ble_eq_true n1;have hp:vs.length=fn.pars:=Nat.eq_of_beq_eq_true hp;have hrx:RX σ (initTm 0 vs++shT N tm) M ⟨mapT (st3 σ) (initTm 0 vs++shT N tm),own⟩:=⟨fun j=>Or.inr (by rw[tg_eq];exact tget_mapT (st3_any σ) j _),hs⟩;obtain ⟨n,c,s',hr,σ',tm',M',hR,hg,hres⟩:=h σ _ hrx;have hgh:Gh N (mapT (st3 σ) (shT N tm)) (initTm 0 (vs.map (st3 σ))) (mapT (st3 σ) (initTm 0 vs++shT N tm)):=by
  constructor
  ·intro j hj
   rw[initTm_map,tget_mapT (st3_any σ),tget_mapT (st3_any σ)];rcases tget_append j (shT N tm) (initTm 0 vs) with ⟨_,e⟩|⟨hn,e⟩
   ·rw[e]
   ·rw[e,tget_shT_lt hj,tget_initTm_hi j 0 vs hn]
  ·intro j hj
   rw[tget_mapT (st3_any σ),tget_mapT (st3_any σ)];rcases tget_append j (shT N tm) (initTm 0 vs) with ⟨hn,e⟩|⟨_,e⟩
   ·have:=initTm_any j 0 vs hn
    omega
   ·rw[e]
 obtain ⟨s,r1,r2,r3⟩:=run_gh n (by simp [iLt,n2]) hgh hr;obtain ⟨rs,i1,i2,i3⟩:=resLX_sound hR hres;rw[←resOf_lo (s:=s) r2.symm r3.lo n3,i3]at i1;have key : ∃ r,resVal (rs.map (st2 σ'))=st3 σ' r∧K r M':=by
  match rs,i2,i3 with
  | [],h,_=>exact ⟨.tup [],rfl,h⟩
  | [v],h,e =>
   simp only[List.map_cons,List.map_nil,List.cons.injEq,and_true]at e;exact ⟨v,by simp only[List.map_cons,List.map_nil,resVal];exact e.symm,h⟩
  | a::b::l,h,_=>exact ⟨.tup (a::b::l),rfl,h⟩
 obtain ⟨r,k1,k2⟩:=key;refine ⟨r,s.own,σ',M',EvI.intro hL (by simpa using hp) ⟨n,c,s,r1,?_,rfl⟩,?_,?_,k2⟩
 ·rw[i1,Option.map_some,k1]
 ·rw[←r2];exact hR.sat
 ·intro j
  have e1:tg tm j=tg tm' (N+j):=by rw[tg_eq,tg_eq,←hg,tget_gh]
  rcases hR.tm (N+j) with e|e
  ·rw[e1,e];rfl
  ·rw[e1,←e,r3.hi (N+j) (by omega),tget_mapT (st3_any σ),tget_shT,←tg_eq,e1]
end Go.Eng
