/-
  The walk by computation is sound: calls, regions, code, loops, functions.
-/
import Derived.Test.YtiadddpcmkfpjaaGreatB6
import Derived.Calls
import Derived.Test.YtiadddpcmkfpjaaGreatB3
set_option linter.unusedSimpArgs false
set_option linter.unusedVariables false
set_option linter.unnecessarySimpa false
namespace Go.Eng
section
variable {σ:Stp} {tm:Tm} {M:Mem} {st:St} {L:Lib} {ban:List Nat}
theorem okE_snap {own:Own} {q:Bool} {d:Nat} : ∀ {e:List AV},okE e=true→e.mapM (snap own q d)=some e
 | [],_=>rfl
 | v::r,h=>by
  have hv:snap own q d v=some v∧okE r=true:=by
   cases v<;>simp only[okE]at h<;>first|cases h|exact ⟨by cases d<;>rfl,h⟩
  rw[List.mapM_cons,hv.1,okE_snap hv.2];rfl
theorem okN_snap {own:Own} {q:Bool} {d:Nat} : ∀ {e:List AV},okN e=true→e.mapM (snap own q d)=some (e.map nl)
 | [],_=>rfl
 | v::r,h=>by
  have hv:snap own q d v=some (nl v)∧okN r=true:=by
   cases v<;>simp only[okN]at h<;>first|cases h|exact ⟨by cases d<;>rfl,h⟩
  rw[List.mapM_cons,hv.1,okN_snap hv.2];rfl
theorem okNL_snap {own:Own} {q:Bool} {d:Nat} : ∀ {es:List (List AV)},(∀ e∈es,okN e=true)→es.mapM (fun cs:List AV=>cs.mapM (snap own q d))=some (es.map fun e=>e.map nl)
 | [],_=>rfl
 | e::r,h=>by
  rw[List.mapM_cons,okN_snap (h e List.mem_cons_self),okNL_snap fun x hx=>h x (List.mem_cons_of_mem _ hx)];rfl
theorem okEL_snap {own:Own} {q:Bool} {d:Nat} : ∀ {es:List (List AV)},(∀ e∈es,okE e=true)→es.mapM (fun cs:List AV=>cs.mapM (snap own q d))=some es
 | [],_=>rfl
 | e::r,h=>by
  rw[List.mapM_cons,okE_snap (h e List.mem_cons_self),okEL_snap fun x hx=>h x (List.mem_cons_of_mem _ hx)];rfl
theorem snD_sound (hs:Sat σ st.own M) {q:Bool} {v:AV} {K:AV→Prop} (h:snD q M ban v K) : ∃ v',(∀ d,snap (st.own.hide ban) q (d+1) (st1 σ v)=some v')∧K v'∧v ≠ .any∧st2 σ v=st1 σ v:=by
 cases v with
 | row key t z off len =>
  have fin : ∀ (z':Nat) (es:List (List AV)),((st.own.hide ban) (σ key t).1).blk (σ key t).2=some ⟨z',es⟩→z=z'→SnR es off len (fun es=>K (.sl q es)) → ∃ v',(∀ d,snap (st.own.hide ban) q (d+1) (st1 σ (.row key t z off len))=some v')∧K v'∧AV.row key t z off len ≠ .any∧st2 σ (.row key t z off len)=st1 σ (.row key t z off len):=by
   intro z' es hb hz h
   subst hz
   obtain ⟨h1,h2,h3⟩:=h
   refine ⟨_,fun d => ?_,h3,(by intro e;cases e),rfl⟩
   simp only[st1,snap,elemsOf,Own.get,hb]
   rw[if_pos ⟨h1,trivial⟩]
   simp only
   rw[okNL_snap fun e he=>h2 e (List.mem_of_mem_drop (List.mem_of_mem_take he))]
   rfl
  simp only[snD]at h
  split at h
  ·rename_i s z' es hm
   split at h
   ·cases hz:Nat.beq z z'<;>simp only[hz,cond_true,cond_false]at h
    cases hb:okB s ban<;>simp only[hb,cond_true,cond_false]at h
    refine fin z' es ?_ (beq_iff.1 hz) h
    have hbk:=hs.blk _ _ _ (mref_root hm)
    rw[hs.site _ _ _ hm]at hbk ⊢
    rw[okB_hide hb];exact hbk
   ·exact h.elim
  ·rename_i s rows hm
   split at h
   ·exact h.elim
   ·rename_i i
    split at h
    ·obtain ⟨z',es,g,h⟩:=h
     cases hz:Nat.beq z z'<;>simp only[hz,cond_true,cond_false]at h
     exact fin z' es (hs.blk key (i+1) (.rw z' es) (by simp [mref,hm,g])) (beq_iff.1 hz) h
    ·rename_i b r
     cases hb:okC (b::r)<;>simp only[hb,cond_true,cond_false]at h
     obtain ⟨z',es,g,h⟩:=h
     cases hz:Nat.beq z z'<;>simp only[hz,cond_true,cond_false]at h
     have g':mref M key (i+1)=some (.rw z' es):=by simp [mref,hm,g]
     refine fin z' es ?_ (beq_iff.1 hz) h
     rw[okC_hide (hs.low _ _ _ g' rfl) hb]
     exact hs.blk key (i+1) (.rw z' es) g'
  ·exact h.elim
 | int k n=>exact ⟨_,fun d=>rfl,h,(by intro e;cases e),rfl⟩
 | bool b=>exact ⟨_,fun d=>rfl,h,(by intro e;cases e),rfl⟩
 | sl l es=>exact ⟨_,fun d=>rfl,h,(by intro e;cases e),rfl⟩
 | con c=>exact ⟨_,fun d=>rfl,h,(by intro e;cases e),rfl⟩
 | nil=>exact ⟨_,fun d=>rfl,h,(by intro e;cases e),rfl⟩
 | _=>exact (h:False).elim
theorem snDL_sound (hs:Sat σ st.own M) {q:Bool} : ∀ {l:List AV} {K:List AV→Prop},snDL q M ban l K → ∃ l',(∀ d,(l.map (st1 σ)).mapM (snap (st.own.hide ban) q (d+1))=some l')∧K l'
 | [],K,h=>⟨[],fun d=>rfl,h⟩
 | v::r,K,h=>by
  obtain ⟨v',h1,h2,_⟩:=snD_sound hs (show snD q M ban v fun v'=>snDL q M ban r fun r'=>K (v'::r') from h)
  obtain ⟨l',h3,h4⟩:=snDL_sound hs h2
  refine ⟨v'::l',fun d => ?_,h4⟩
  rw[List.map_cons,List.mapM_cons,h1 d,h3 d];rfl
theorem snDLL_sound (hs:Sat σ st.own M) {q:Bool} : ∀ {l:List (List AV)} {K:List (List AV)→Prop},snDLL q M ban l K → ∃ l',(∀ d,(l.map fun cs=>cs.map (st1 σ)).mapM (fun cs:List AV=>cs.mapM (snap (st.own.hide ban) q (d+1)))=some l')∧K l'
 | [],K,h=>⟨[],fun d=>rfl,h⟩
 | v::r,K,h=>by
  obtain ⟨v',h1,h2⟩:=snDL_sound hs (show snDL q M ban v fun v'=>snDLL q M ban r fun r'=>K (v'::r') from h)
  obtain ⟨l',h3,h4⟩:=snDLL_sound hs h2
  refine ⟨v'::l',fun d => ?_,h4⟩
  rw[List.map_cons,List.mapM_cons,h1 d,h3 d];rfl
theorem rowsE_snap {own:Own} {q:Bool} {d:Nat} {k:Nat} : ∀ {rows:List (Option (Nat × List (List AV)))} {i:Nat},(∀ j z es,rows[j]? = some (some (z,es))→(own (σ k (i+j+1)).1).blk (σ k (i+j+1)).2=some ⟨z,es⟩ ∧ ∀ e∈es,okE e=true) →
  (mxB σ k i rows).mapM (fun cs:List AV=>cs.mapM (snap own q (d+1)))=some (rowsE q rows)
 | [],i,h=>rfl
 | none::r,i,h=>by
  rw[mxB,List.mapM_cons,rowsE_snap (i:=i+1) fun j z es hj=>by
   have:=h (j+1) z es (by simpa using hj)
   rwa [show i+(j+1)+1=i+1+j+1 by omega]at this]
  rfl
 | some (z,es)::r,i,h=>by
  rw[mxB,List.mapM_cons,rowsE_snap (i:=i+1) fun j z es hj=>by
   have:=h (j+1) z es (by simpa using hj)
   rwa [show i+(j+1)+1=i+1+j+1 by omega]at this]
  obtain ⟨h1,h2⟩:=h 0 z es rfl
  have:snap own q (d+1) (.row (σ k (i+1)).1 (σ k (i+1)).2 z 0 es.length)=some (.sl q es):=by
   simp only[snap,elemsOf,Own.get]
   rw[show (own (σ k (i+1)).1).blk (σ k (i+1)).2=some ⟨z,es⟩ from h1]
   simp only[Nat.zero_add,Nat.le_refl,and_self,if_true,List.drop_zero]
   rw[List.take_of_length_le (Nat.le_refl _),okEL_snap h2]
   rfl
  rw[List.mapM_cons,this]
  rfl
theorem snC_sound (hs:Sat σ st.own M) {q:Bool} {v:AV} {K:AV→Prop} (h:snC q M ban v K) : ∃ v',snap (st.own.hide ban) q 6 (st1 σ v)=some v'∧K v'∧v ≠ .any∧st2 σ v=st1 σ v∧snapA (st.own.hide ban) q (st1 σ v)=some v':=by
 have dat:snD q M ban v K → ∃ v',snap (st.own.hide ban) q 6 (st1 σ v)=some v'∧K v'∧v ≠ .any∧st2 σ v=st1 σ v∧snapA (st.own.hide ban) q (st1 σ v)=some v':=by
  intro h
  obtain ⟨v',h1,h2,h3,h4⟩:=snD_sound hs h
  refine ⟨v',h1 5,h2,h3,h4,?_⟩
  have:=h1 5
  cases v<;>first|exact this|exact (h:False).elim
 unfold snC at h
 split at h
 ·rename_i key z off len
  split at h
  ·rename_i s z' es hm
   cases hz:Nat.beq z z'<;>simp only[hz,cond_true,cond_false]at h
   cases hb:okB s ban<;>simp only[hb,cond_true,cond_false]at h
   cases ho:Nat.beq off 0<;>simp only[ho,cond_true,cond_false]at h
   obtain rfl:=beq_iff.1 hz
   obtain rfl:=beq_iff.1 ho
   obtain ⟨rfl,h⟩:=h
   obtain ⟨l',h1,h2⟩:=snDLL_sound hs h
   have hbk:=hs.blk _ _ _ (mref_root hm)
   rw[hs.site _ _ _ hm]at hbk
   have key:snap (st.own.hide ban) q 6 (st1 σ (.row key 0 z 0 es.length))=some (.sl q l'):=by
    simp only[st1,snap,elemsOf,Own.get,hs.site _ _ _ hm]
    rw[okB_hide hb,hbk]
    simp only[Cel.blk,Nat.zero_add,List.length_map,Nat.le_refl,and_self,if_true,List.drop_zero]
    rw[List.take_of_length_le (by simp),h1 4]
    rfl
   exact ⟨_,key,h2,(by intro e;cases e),rfl,key⟩
  ·rename_i s rows hm
   split at h
   ·cases hz:Nat.beq z 1<;>simp only[hz,cond_true,cond_false]at h
    obtain rfl:=beq_iff.1 hz
    obtain ⟨rfl,rfl,h1,h2⟩:=h
    have hbk:=hs.blk _ _ _ (mref_root hm)
    have key:snap (st.own.hide []) q 6 (st1 σ (.row key 0 1 0 rows.length))=some (.sl q (rowsE q rows)):=by
     simp only[st1,snap,elemsOf,Own.get,Own.hide]
     rw[hbk]
     simp only[Cel.blk,Nat.zero_add,mxB_len,Nat.le_refl,and_self,if_true,List.drop_zero]
     rw[List.take_of_length_le (by rw[mxB_len];exact Nat.le_refl _),rowsE_snap (i:=0) fun j z es hj=>⟨by
      have:=hs.blk key (j+1) (.rw z es) (by simp [mref,hm,hj])
      simpa [Cel.blk] using this,h1 z es (zM hj)⟩]
     rfl
    exact ⟨_,key,h2,(by intro e;cases e),rfl,key⟩
   ·exact h.elim
  ·exact dat h
 ·exact dat h
theorem snL_sound (hs:Sat σ st.own M) {q:Bool} : ∀ {l:List AV} {K:List AV→Prop},snL q M ban l K → ∃ l',(l.map (st1 σ)).mapM (snap (st.own.hide ban) q 6)=some l'∧K l'
 | [],K,h=>⟨[],rfl,h⟩
 | v::r,K,h=>by
  obtain ⟨v',h1,h2,_⟩:=snC_sound hs (show snC q M ban v fun v'=>snL q M ban r fun r'=>K (v'::r') from h)
  obtain ⟨l',h3,h4⟩:=snL_sound hs h2
  refine ⟨v'::l',?_,h4⟩
  rw[List.map_cons,List.mapM_cons,h1,h3];rfl
theorem snA_sound (hs:Sat σ st.own M) {q:Bool} {v:AV} {K:AV→Prop} (h:snA q M ban v K) : ∃ v',snapA (st.own.hide ban) q (st3 σ v)=some v'∧K v'∧v ≠ .any∧st3 σ v=st2 σ v:=by
 cases v with
 | agg cs =>
  simp only[snA]at h
  obtain ⟨l',h1,h2⟩:=snL_sound hs h
  refine ⟨.agg l',?_,h2,(by intro e;cases e),rfl⟩
  simp only[s3_agg,snapA,h1,Option.map_some]
 | tup vs=>exact (h:False).elim
 | fn p f g cs=>exact (h:False).elim
 | any=>exact (h:False).elim
 | _ =>
  simp only[snA]at h
  obtain ⟨v',h1,h2,h3,h4,h5⟩:=snC_sound hs h
  exact ⟨v',h5,h2,h3,rfl⟩
theorem snX_sound (hr:RX σ tm M st) : ∀ {xs:List Opd} {K:List AV→Prop},snX tm M ban xs K → ∃ vs,(xs.map st.ev).mapM (snapA (st.own.hide ban) true)=some vs∧K vs
 | [],K,h=>⟨[],rfl,h⟩
 | x::r,K,h=>by
  obtain ⟨v',h1,h2,h3,_⟩:=snA_sound hr.sat (show snA true M ban (ex tm x) fun v=>snX tm M ban r fun vs=>K (v::vs) from h)
  obtain ⟨l',h4,h5⟩:=snX_sound hr h2
  refine ⟨v'::l',?_,h5⟩
  rw[List.map_cons,List.mapM_cons,hr.ev rfl h3,h1,h4];rfl
theorem snN_sound (hs:Sat σ st.own M) {v:AV} {K:AV→Prop} (h:snN M ban v K) : ∃ v',snapN (st.own.hide ban) true (st3 σ v)=some v'∧K v'∧v ≠ .any∧st3 σ v=st2 σ v:=by
 cases v with
 | nil=>exact ⟨.nil,rfl,h,(by intro e;cases e),rfl⟩
 | _ =>
  simp only[snN]at h
  obtain ⟨v',h1,h2,h3,h4⟩:=snA_sound hs h
  exact ⟨v',h1,h2,h3,h4⟩
theorem snNX_sound (hr:RX σ tm M st) : ∀ {xs:List Opd} {K:List AV→Prop},snNX tm M ban xs K → ∃ vs,(xs.map st.ev).mapM (snapN (st.own.hide ban) true)=some vs∧K vs
 | [],K,h=>⟨[],rfl,h⟩
 | x::r,K,h=>by
  obtain ⟨v',h1,h2,h3,_⟩:=snN_sound hr.sat (show snN M ban (ex tm x) fun v=>snNX tm M ban r fun vs=>K (v::vs) from h)
  obtain ⟨l',h4,h5⟩:=snNX_sound hr h2
  refine ⟨v'::l',?_,h5⟩
  rw[List.map_cons,List.mapM_cons,hr.ev rfl h3,h1,h4];rfl
theorem exF_sound (hr:RX σ tm M st) : ∀ {xs:List Opd} {K:List AV→Prop},exF tm xs K → ∃ vs,xs.map st.ev=vs.map (st3 σ)∧K vs
 | [],K,h=>⟨[],rfl,h⟩
 | x::r,K,h=>by
  obtain ⟨h1,h2⟩:=fV_sound (show fV (ex tm x) fun v=>exF tm r fun vs=>K (v::vs) from h)
  obtain ⟨vs,h3,h4⟩:=exF_sound hr h2
  exact ⟨ex tm x::vs,by rw[List.map_cons,List.map_cons,hr.ev rfl h1,h3],h4⟩
theorem clean_st1 {v:AV} (h:Clean v):st1 σ v=v:=by
 cases v<;>first|rfl|(simp only[Clean]at h)
theorem cleanL_st1 : ∀ {l:List AV},CleanL l→l.map (st1 σ)=l
 | [],_=>rfl
 | v::r,h=>by
  simp only[CleanL]at h
  rw[List.map_cons,clean_st1 h.1,cleanL_st1 h.2]
theorem clean_st2 {v:AV} (h:Clean v):st2 σ v=v:=by
 cases v with
 | agg cs=>simp only[Clean]at h;simp only[st2,cleanL_st1 h]
 | fn p f g cs=>simp only[Clean]at h
 | _=>exact clean_st1 (σ:=σ) h
theorem cleanL_st2 : ∀ {l:List AV},CleanL l→l.map (st2 σ)=l
 | [],_=>rfl
 | v::r,h=>by
  simp only[CleanL]at h
  rw[List.map_cons,clean_st2 h.1,cleanL_st2 h.2]
theorem clean_st3 {v:AV} (h:Clean v):st3 σ v=v:=by
 cases v with
 | tup cs=>simp only[Clean]at h;simp only[st3,cleanL_st2 h]
 | _=>exact clean_st2 (σ:=σ) h
theorem pureP_clean {I:List AV→Option (AV × Own)} {vs:List AV} {r:AV} (h:pureP I vs=some r):Clean r:=by
 unfold pureP at h
 split at h
 ·split at h
  ·split at h
   ·obtain rfl:=Option.some.inj h
    assumption
   ·cases h
  ·cases h
 ·cases h
theorem Ev.clean {f:Nat} {vs:List AV} {r:AV} (h:Ev L f vs r):Clean r:=by
 obtain ⟨n,h⟩:=h
 unfold evP pureS at h
 split at h
 ·split at h
  ·rename_i r1 r2 h1 h2
   split at h
   ·obtain rfl:=Option.some.inj h
    exact pureP_clean h1
   ·cases h
  ·cases h
 ·exact pureP_clean h
theorem RX.put (h:RX σ tm M st) (d:Nat) {v v':AV} (e:v'=st3 σ v):RX σ ((d,v)::tm) M ⟨tput st.tm d v',st.own⟩:=by
 refine ⟨fun j => ?_,h.sat⟩
 simp only[tg,tget_tput]
 cases hb:Nat.beq j d
 ·rw[if_neg (beq_false.1 hb)];exact h.tm j
 ·rw[if_pos (beq_iff.1 hb)];exact Or.inr e
theorem oneL_st : ∀ {cs:List AV},oneL cs=true→cs.map (st3 σ)=cs.map (st1 σ)
 | [],_=>rfl
 | v::r,h=>by
  simp only[oneL]at h
  cases hv:one1 v<;>simp only[hv,cond_true,cond_false]at h
  ·cases h
  ·rw[List.map_cons,List.map_cons,oneL_st h]
   cases v<;>first|rfl|(simp [one1]at hv)
theorem dq1_st1 {v:AV} (h:dq1 v=true):st1 σ v=v:=by cases v<;>first|rfl|(simp [dq1]at h)
theorem dqL_st1 : ∀ {cs:List AV},cs.all dq1=true→cs.map (st1 σ)=cs
 | [],_=>rfl
 | c::r,h=>by
  simp only[List.all_cons,Bool.and_eq_true]at h
  rw[List.map_cons,dq1_st1 h.1,dqL_st1 h.2]
theorem dq_st3 : ∀ {vs:List AV},vs.all dq=true→vs.map (st3 σ)=vs
 | [],_=>rfl
 | v::r,h=>by
  simp only[List.all_cons,Bool.and_eq_true]at h
  rw[List.map_cons,dq_st3 h.2]
  congr 1
  cases v with
  | agg cs=>simp only[st3,st2,dqL_st1 (show cs.all dq1=true from h.1)]
  | _=>first|rfl|(simp [dq,dq1]at h)
theorem lnd_st3 {r:AV} (hc:Clean r) (hf:FlatR r):st3 σ (lnd r)=lnd r:=by
 cases r with
 | agg cs =>
  simp only[lnd,st3,st2]
  congr 1
  rw[List.map_map]
  refine List.map_congr_left fun c hcm => ?_
  have:=hf c hcm
  cases c<;>first|rfl|exact this.elim
 | _=>first|rfl|exact hf.elim
theorem intA_st3 : ∀ {l:List AV},intA l=true→l.map (st3 σ)=l
 | [],_=>rfl
 | .int _ _::r,h=>by
  rw[List.map_cons,intA_st3 (l:=r) h];rfl
theorem XE_good {K:AV→Mem→Prop} (hr:RX σ tm M st) {op:AOp} (h:XE L tm M ban K op):Good L tm ban K op st∨(∃ f xs,op = .call f xs)∨(∃ f xs,op = .calli f xs)∨(∃ x xs,op = .callv x xs)∨(∃ f xs,op = .callq f xs)∨(∃ s f xs,op = .callr s f xs) ∨ ∃ s f xs,op = .cals s f xs:=by
 cases op with
 | call f xs=>exact Or.inr (Or.inl ⟨_,_,rfl⟩)
 | calli f xs=>exact Or.inr (Or.inr (Or.inl ⟨_,_,rfl⟩))
 | callv x xs=>exact Or.inr (Or.inr (Or.inr (Or.inl ⟨_,_,rfl⟩)))
 | callq f xs=>exact Or.inr (Or.inr (Or.inr (Or.inr (Or.inl ⟨_,_,rfl⟩))))
 | callr s f xs=>exact Or.inr (Or.inr (Or.inr (Or.inr (Or.inr (Or.inl ⟨_,_,_,rfl⟩)))))
 | cals s f xs=>exact Or.inr (Or.inr (Or.inr (Or.inr (Or.inr (Or.inr ⟨_,_,_,rfl⟩)))))
 | sto s n x v=>exact Or.inl (XE_sto hr h)
 | appo s z b x y=>exact Or.inl (XE_appo hr h)
 | isn ne x=>exact Or.inl (XE_isn hr h)
 | bad=>exact (show False from h).elim
 | nck x=>exact Or.inl (XE_nck hr h)
 | capn x=>exact Or.inl (XE_capn hr h)
 | apz s z b x y=>exact Or.inl (XE_apz hr h)
 | apd s z b x y=>exact Or.inl (XE_apd hr h)
 | sidx tb x=>exact Or.inl (XE_sidx hr h)
 | mkf p f xs=>exact Or.inl (XE_mkf hr h)
 | mov x=>exact Or.inl (XE_mov hr h)
 | vrow s z=>exact Or.inl (XE_vrow hr h)
 | pick c a b=>exact Or.inl (XE_pick hr h)
 | bin o x y=>exact Or.inl (XE_bin hr h)
 | beq ne x y=>exact Or.inl (XE_beq hr h)
 | aeq ne n x y=>exact Or.inl (XE_aeq hr h)
 | un o x=>exact Or.inl (XE_un hr h)
 | conv k x=>exact Or.inl (XE_conv hr h)
 | box s x=>exact Or.inl (XE_box hr h)
 | alloc s z=>exact Or.inl (XE_alloc hr h)
 | build z ps=>exact Or.inl (XE_build hr h)
 | bslice s z ps=>exact Or.inl (XE_bslice hr h)
 | fadr x o=>exact Or.inl (XE_fadr hr h)
 | fld x o n a=>exact Or.inl (XE_fld hr h)
 | iadr a z x i=>exact Or.inl (XE_iadr hr h)
 | idx l z a x i=>exact Or.inl (XE_idx hr h)
 | ld a n x=>exact Or.inl (XE_ld hr h)
 | st n x v=>exact Or.inl (XE_st hr h)
 | mk s z b ze l c=>exact Or.inl (XE_mk hr h)
 | slc z x lo hi=>exact Or.inl (XE_slc hr h)
 | ext x i=>exact Or.inl (XE_ext hr h)
 | len x=>exact Or.inl (XE_len hr h)
 | mm m xs=>exact Or.inl (XE_mm hr h)
 | app s z b x y=>exact Or.inl (XE_app hr h)
 | cpy z x y=>exact Or.inl (XE_cpy hr h)
theorem XE_sound {K:AV→Mem→Prop} (hr:RX σ tm M st) {op:AOp} {d:Option Nat} {g:Option (Nat × Bool)} {l:List AI} {k:List It} {Q:St→Prop} (h:XE L tm M ban K op) (hg:guardA st g=some true)
  (hk : ∀ σ' v v' M' own',K v M'→v'=st3 σ' v→RX σ' tm M' ⟨st.tm,own'⟩→AO L l k ⟨((⟨st.tm,own'⟩:St).dst d v').tm,own'⟩ Q):AO L (⟨d,op,g,ban⟩::l) k st Q:=by
 rcases XE_good hr h with ⟨E,σ',v,M',h1,h2,h3,h4⟩|⟨f,xs,rfl⟩|⟨f,xs,rfl⟩|⟨x,xs,rfl⟩|⟨f,xs,rfl⟩|⟨s,f,xs,rfl⟩|⟨s,f,xs,rfl⟩
 ·rw[AO_opL hg h1,app_res]
  have:=hk σ' v _ M' _ h2 h3 h4
  cases d<;>exact this
 ·simp only[XE]at h
  obtain ⟨vs,h1,r,h2,h3⟩:=snX_sound hr h
  rw[AO_call hg h1 h2]
  have:=hk σ r r M st.own h3 (clean_st3 h2.clean).symm hr
  cases d<;>exact this
 ·simp only[XE]at h
  obtain ⟨vs,h1,h2⟩:=exF_sound hr h
  obtain ⟨r,own',σ',M',h3,h4,h5,h6⟩:=h2 σ st.own hr.sat
  rw[←h1]at h3
  rw[AO_calli hg h3]
  have:=hk σ' r _ M' own' h6 rfl ⟨fun j=>by rw[h5 j];exact hr.tm j,h4⟩
  cases d<;>exact this
 ·simp only[XE]at h
  split at h
  ·rename_i f g' e1
   obtain ⟨h0,h⟩:=h
   obtain ⟨vs,h1,r,h2,h3⟩:=snX_sound hr h
   have e2:=hr.ev e1 (by intro e;cases e)
   rw[s3_fn,List.map_nil,h0]at e2
   rw[AO_callp hg e2 h1 h2]
   have:=hk σ r r M st.own h3 (clean_st3 h2.clean).symm hr
   cases d<;>exact this
  ·rename_i f g' cs e1
   cases ho:oneL cs<;>simp only[ho,cond_true,cond_false]at h
   obtain ⟨h0,h⟩:=h
   obtain ⟨vs,h1,h2⟩:=exF_sound hr h
   rw[fL_eq]at h2
   obtain ⟨r,own',σ',M',h3,h4,h5,h6⟩:=h2 σ st.own hr.sat
   rw[List.map_append,←h1,oneL_st (σ:=σ) ho]at h3
   have e2:=hr.ev e1 (by intro e;cases e)
   rw[s3_fn,h0]at e2
   rw[AO_callv hg e2 h3]
   have:=hk σ' r _ M' own' h6 rfl ⟨fun j=>by rw[h5 j];exact hr.tm j,h4⟩
   cases d<;>exact this
  ·exact h.elim
 ·simp only[XE]at h
  obtain ⟨vs,h1,h2⟩:=exF_sound hr h
  cases ho:vs.all dq<;>simp only[ho,cond_true,cond_false]at h2
  obtain ⟨r,h3,h4,h5⟩:=h2
  have e1:xs.map st.ev=vs:=by rw[h1];exact dq_st3 ho
  rw[AO_callq hg (by rw[e1];exact ho) (by rw[e1];exact h3) h4]
  have:=hk σ (lnd r) (lnd r) M st.own h5 (lnd_st3 h3.clean h4).symm hr
  cases d<;>exact this
 ·simp only[XE]at h
  cases hlow:loSite s<;>simp only[hlow,cond_true,cond_false]at h
  obtain ⟨vs,h1,z,es,n,h2,rfl,h3⟩:=snNX_sound hr h
  obtain ⟨k',g1,g2,g3⟩:=NewF_sound h3
  refine AO_callr hg h1 h2 ?_
  rw[app_res]
  have:=hk (updF σ k' fun _=>(s,st.own.cnt s)) _ (.row s (st.own.cnt s) z 0 es.length) _ _ g3 (by simp only[s3_row,updF_same]) (hr.newq (q:=s) g1 g2 (.rw z es) trivial rfl (fun _=>hlow))
  cases d<;>exact this
 ·simp only[XE]at h
  obtain ⟨vs,h1,h2⟩:=exF_sound hr h
  split at h2
  ·rename_i key rest
   cases hi:intA rest<;>simp only[hi,cond_true,cond_false]at h2
   obtain ⟨cells,cells',kd,n,g1,g2,g3,g4,g5⟩:=h2
   have hsite:=hr.sat.site _ _ _ g1
   have hbk:=hr.sat.blk _ _ _ (mref_root g1)
   rw[hsite]at hbk
   simp only[Cel.blk,datL_st1 g2]at hbk
   have hev:xs.map st.ev = .ptr s (σ key 0).2 0 0::rest:=by
    rw[h1,List.map_cons,s3_ptr,hsite,intA_st3 hi]
   have hE:=g4 (σ key 0).2 (st.own s) hbk
   refine AO_cals hg (by rw[hev];exact hE) ?_
   rw[app_res]
   have:=hk σ (.int kd n) (.int kd n) _ _ g5 rfl (hr.stq g1 trivial (.bx cells') trivial (fun h=>by cases h))
   simp only[Cel.blk,datL_st1 g3]at this
   cases d<;>exact this
  ·exact h2.elim
theorem guard_some (hr:RX σ tm M st) {g:Nat} {w:Bool} {b:Bool} (e:tg tm g = .bool b):guardA st (some (g,w))=some (b == w):=by
 rcases hr.tm g with h|h
 ·rw[e]at h;cases h
 ·rw[e]at h
  simp only[guardA,h,s3_bool]
theorem guard_tup (hr:RX σ tm M st) {g:Nat} {w:Bool} (e:tg tm g = .tup []):guardA st (some (g,w))=some false:=by
 rcases hr.tm g with h|h
 ·rw[e]at h;cases h
 ·rw[e]at h
  simp only[guardA,h,s3_tup,List.map_nil]
theorem tcl_tg {key:Nat} : ∀ (tm:Tm) (j:Nat),tg (tcl key tm) j = .any∨tg (tcl key tm) j=tg tm j
 | [],_=>Or.inl rfl
 | (i,v)::r,j=>by
  simp only[tcl]
  cases hc:ch3 key v<;>cases hb:Nat.beq j i
  all_goals simp only[cond_true,cond_false,tg,hb]
  ·exact tcl_tg r j
  ·exact Or.inr trivial
  ·exact tcl_tg r j
  ·exact Or.inl trivial
theorem xk_sound {v:AV} {K:Tm→Prop} (h:xk v tm K) : ∃ tm',(∀ j,tg tm' j = .any∨tg tm' j=tg tm j)∧K tm':=by
 unfold xk at h
 split at h
 ·rw[fT_eq]at h
  exact ⟨_,fun j=>tcl_tg _ j,h⟩
 ·exact ⟨_,fun j=>Or.inr rfl,h⟩
theorem XO_sound {k:List It} {Q:Tm→Mem→Prop} : ∀ {l:List AI} {K:Tm→Mem→Prop} {tm:Tm} {M:Mem},XO L l K tm M→(∀ tm' M',K tm' M'→AKM L k tm' M' Q)→AOM L l k tm M Q
 | [],K,tm,M,h,hk=>fun σ st hr=>AO_nil.2 (hk tm M h σ st hr)
 | o::l,K,tm,M,h,hk=>by
  intro σ st hr
  have h:XI L o (XO L l) K tm M:=h
  have ih : ∀ tm' M',XO L l K tm' M'→AOM L l k tm' M' Q:=fun tm' M' h'=>XO_sound h' hk
  have some_ : ∀ (d:Nat) (op:AOp) (g:Option (Nat × Bool)) (ban:List Nat),guardA st g=some true→XE L tm M ban (fun v M=>XO L l K ((d,v)::tm) M) op→AO L (⟨some d,op,g,ban⟩::l) k st (SQ Q):=by
   intro d op g ban hg hx
   refine XE_sound hr hx hg ?_
   intro σ' v v' M' own' h1 h2 h3
   exact ih _ _ h1 σ' _ (h3.put d h2)
  have somek_ : ∀ (d:Nat) (u:AV) (op:AOp) (ban:List Nat),XE L tm M ban (fun v M=>xk u tm fun tm=>XO L l K ((d,v)::tm) M) op→AO L (⟨some d,op,none,ban⟩::l) k st (SQ Q):=by
   intro d u op ban hx
   refine XE_sound hr hx rfl ?_
   intro σ' v v' M' own' h1 h2 h3
   obtain ⟨tm',g1,g2⟩:=xk_sound h1
   exact ih _ _ g2 σ' _ ((show RX σ' tm' M' ⟨st.tm,own'⟩ from ⟨fun j=>(g1 j).elim Or.inl fun e=>by rw[e];exact h3.tm j,h3.sat⟩).put d h2)
  have none_ : ∀ (op:AOp) (g:Option (Nat × Bool)) (ban:List Nat),guardA st g=some true→XE L tm M ban (fun _ M=>XO L l K tm M) op→AO L (⟨none,op,g,ban⟩::l) k st (SQ Q):=by
   intro op g ban hg hx
   refine XE_sound hr hx hg ?_
   intro σ' v v' M' own' h1 h2 h3
   exact ih _ _ h1 σ' _ h3
  have skip_ : ∀ (d:Option Nat) (op:AOp) (g:Option (Nat × Bool)) (ban:List Nat),guardA st g=some false→(match d with|some d=>XO L l K ((d,.tup [])::tm) M|none=>XO L l K tm M)→AO L (⟨d,op,g,ban⟩::l) k st (SQ Q):=by
   intro d op g ban hg hx
   rw[AO_not hg]
   cases d with
   | none=>exact ih _ _ hx σ _ hr
   | some d=>exact ih _ _ hx σ _ (hr.put d rfl)
  obtain ⟨d,op,g,ban⟩:=o
  cases g with
  | none =>
   cases d with
   | none=>exact none_ op none ban rfl h
   | some d =>
    cases op with
    | app s z b x y=>exact somek_ d (ex tm x) (.app s z b x y) ban h
    | _=>exact some_ d _ none ban rfl h
  | some gw =>
   obtain ⟨g,w⟩:=gw
   have h:(match tg tm g with
    | .bool b=>fB (b == w) fun c=>match c,d with
     | true,some d=>XE L tm M ban (fun v M=>XO L l K ((d,v)::tm) M) op
     | true,none=>XE L tm M ban (fun _ M=>XO L l K tm M) op
     | false,some d=>XO L l K ((d,.tup [])::tm) M
     | false,none=>XO L l K tm M
    | .tup []=>match d with
     | some d=>XO L l K ((d,.tup [])::tm) M
     | none=>XO L l K tm M
    | _=>False):=by cases d<;>cases op<;>exact h
   split at h
   ·rename_i b e
    rw[fB_eq]at h
    have hg:=guard_some hr (w:=w) e
    cases hb:(b == w)<;>rw[hb]at h hg
    ·exact skip_ d op _ ban hg (by cases d<;>exact h)
    ·cases d with
     | none=>exact none_ op _ ban hg h
     | some d=>exact some_ d op _ ban hg h
   ·rename_i e
    exact skip_ d op _ ban (guard_tup hr e) (by cases d<;>exact h)
   ·exact h.elim
theorem XK_sound {Q:Tm→Mem→Prop} : ∀ {n:Nat} {k:List It} {tm:Tm} {M:Mem},XK L Q n k tm M→AKM L k tm M Q
 | 0,k,tm,M,h=>h
 | n+1,[],tm,M,h=>fun σ st hr=>AK_nil.2 ⟨σ,tm,M,hr,h⟩
 | n+1,it::k,tm,M,h=>by
  have h:XS L Q (XK L Q n) (it::k) tm M:=h
  have ih : ∀ k tm M,XK L Q n k tm M→AKM L k tm M Q:=fun k tm M h=>XK_sound h
  intro σ st hr
  cases it with
  | blk id=>exact AK_blk.2 (ih _ _ _ h σ st hr)
  | drp ts ss =>
   simp only[XS,fN_eq,fT_eq]at h
   cases ss with
   | cons s r=>exact h.elim
   | nil =>
    refine AK_drp.2 (ih _ _ _ h σ _ ⟨fun j => ?_,hr.sat⟩)
    rw[tg_cnm,tget_tdrop,bit_mask,bit_zero,Bool.false_or]
    cases hc:ts.contains j
    ·simp only[Bool.false_eq_true,if_false,cond_false]
     exact hr.tm j
    ·exact Or.inl rfl
  | lp c=>exact h σ st hr
  | code c =>
   cases c with
   | skip=>exact AK_skip.2 (ih _ _ _ h σ st hr)
   | ops l d=>exact AK_ops.2 (XO_sound h (fun tm' M' h'=>ih _ _ _ h') σ st hr)
   | dr c ts ss=>exact AK_dr.2 (ih _ _ _ h σ st hr)
   | scope c=>exact AK_scope.2 (ih _ _ _ h σ st hr)
   | seq a b=>exact AK_seq.2 (ih _ _ _ h σ st hr)
   | cond x a b =>
    simp only[XS]at h
    split at h
    ·rename_i b' e
     rw[fB_eq]at h
     rw[AK_cond (hr.ev e (by intro e;cases e))]
     cases b'
     ·simpa using ih _ _ _ h σ st hr
     ·simpa using ih _ _ _ h σ st hr
    ·exact h.elim
   | block id c=>exact AK_block.2 (ih _ _ _ h σ st hr)
   | loop c=>exact AK_loop.2 (AK_lp.1 (h σ st hr))
   | exit id =>
    simp only[XS]at h
    split at h
    ·rename_i k' e
     exact (AK_exit e).2 (ih _ _ _ h σ st hr)
    ·exact h.elim
   | ret=>exact AK_ret.2 ⟨σ,tm,M,hr,h⟩
theorem resX_sound (hr:RX σ tm M st) {r:ARes} {K:AV→Prop} (h:resX tm M r K) : ∃ v,resOf st r=some (st3 σ v)∧K v∧st3 σ v=st2 σ v:=by
 cases r with
 | tmp t =>
  simp only[resX]at h
  obtain ⟨h1,h2,h3⟩:=f2_sound (σ:=σ) h
  refine ⟨_,?_,h3,h2⟩
  rcases hr.tm t with e|e
  ·exact absurd e h1
  ·simp only[resOf,e]
   cases hv:tg tm t<;>rw[hv]at h h1<;>first|rfl|exact (h:False).elim
 | cell t agg n =>
  simp only[resX]at h
  split at h
  ·rename_i key i j e
   split at h
   ·rename_i s cs hm
    cases hi:Nat.beq i 0<;>simp only[hi,cond_true,cond_false]at h
    obtain rfl:=beq_iff.1 hi
    split at h
    ·rename_i ds hp
     rw[fL_eq]at h
     rcases hr.tm t with e'|e'
     ·rw[e]at e';cases e'
     ·have hs:=hr.sat.site _ _ _ hm
      have hbk:=hr.sat.blk _ _ _ (mref_root hm)
      rw[hs]at hbk
      have flat : ∀ v,ofCells agg (ds.map (st1 σ))=some (st3 σ v)→resOf st (.cell t agg n)=some (st3 σ v):=by
       intro v hv
       simp only[resOf,e',e,s3_ptr,Own.ldp,Own.get,hs,hbk,Cel.blk,List.getElem?_cons_zero,part_map hp,hv]
      cases agg
      ·simp only[ofc]at h
       split at h
       ·rename_i c
        obtain ⟨_,h1,h2⟩:=fF_sound (σ:=σ) h
        refine ⟨c,flat c (by rw[h1];rfl),h2,?_⟩
        rw[h1]
        cases c<;>first|rfl|exact (h:False).elim
       ·exact h.elim
      ·exact ⟨.agg ds,flat _ rfl,h,rfl⟩
    ·exact h.elim
   ·exact h.elim
  ·exact h.elim
theorem resLX_sound (hr:RX σ tm M st) : ∀ {l:List ARes} {K:List AV→Prop},resLX tm M l K → ∃ vs,l.mapM (resOf st)=some (vs.map (st3 σ))∧K vs∧vs.map (st3 σ)=vs.map (st2 σ)
 | [],K,h=>⟨[],rfl,h,rfl⟩
 | r::l,K,h=>by
  obtain ⟨v,h1,h2,h3⟩:=resX_sound hr (show resX tm M r fun v=>resLX tm M l fun vs=>K (v::vs) from h)
  obtain ⟨vs,h4,h5,h6⟩:=resLX_sound hr h2
  exact ⟨v::vs,by rw[List.mapM_cons,h1,h4];rfl,h5,by rw[List.map_cons,List.map_cons,h3,h6]⟩
theorem snAL_sound (hs:Sat σ st.own M) {q:Bool} : ∀ {l:List AV} {K:List AV→Prop},snAL q M l K → ∃ l',(l.map (st3 σ)).mapM (snapA st.own q)=some l'∧K l' ∧ ∀ v∈l,st3 σ v=st2 σ v
 | [],K,h=>⟨[],rfl,h,fun v hv=>by cases hv⟩
 | v::r,K,h=>by
  obtain ⟨v',h1,h2,_,h0⟩:=snA_sound hs (show snA q M [] v fun v'=>snAL q M r fun r'=>K (v'::r') from h)
  obtain ⟨l',h3,h4,h5⟩:=snAL_sound hs h2
  refine ⟨v'::l',?_,h4,fun u hu => ?_⟩
  ·rw[List.map_cons,List.mapM_cons,show snapA st.own q (st3 σ v)=some v' from h1,h3];rfl
  ·rcases List.mem_cons.1 hu with rfl|hu
   ·exact h0
   ·exact h5 u hu
theorem snapR_one {own:Own} {q:Bool} {v v':AV} (h:snapA own q v=some v'):snapR own q v=some v':=by
 cases v with
 | tup vs=>simp [snapA,snap]at h
 | _=>exact h
theorem mapM_two {f:AV→Option AV} {x y:AV} {r l':List AV} (h:(x::y::r).mapM f=some l') : ∃ a b c,l'=a::b::c:=by
 rw[List.mapM_cons,List.mapM_cons]at h
 cases hx:f x with
 | none=>rw[hx]at h;cases h
 | some a =>
  cases hy:f y with
  | none=>rw[hx,hy]at h;cases h
  | some b =>
   cases hr:r.mapM f with
   | none=>rw[hx,hy,hr]at h;cases h
   | some c =>
    rw[hx,hy,hr]at h
    exact ⟨a,b,c,(Option.some.inj h).symm⟩
theorem RetX_sound {fn:AFn} {r:AV} (hr:RX σ tm M st) (h:RetX fn r tm M):Res fn r st:=by
 unfold RetX at h
 obtain ⟨vs,h1,h2,h3⟩:=resLX_sound hr h
 obtain ⟨l',h4,h5,h6⟩:=snAL_sound hr.sat h2
 unfold Res
 rw[h1,Option.map_some,Option.bind_some]
 match vs,l',h4,h5 with
 | [],l',h4,h5 =>
  obtain rfl:=Option.some.inj h4
  obtain ⟨e,hc⟩:=h5
  exact ⟨by rw[←e];rfl,hc⟩
 | [v],l',h4,h5 =>
  rw[List.map_cons,List.map_nil,List.mapM_cons]at h4
  cases hv:snapA st.own false (st3 σ v) with
  | none=>rw[hv]at h4;cases h4
  | some v' =>
   rw[hv]at h4
   obtain rfl:=Option.some.inj h4
   obtain ⟨e,hc⟩:=h5
   exact ⟨by rw[←e];exact snapR_one hv,hc⟩
 | v::u::w,l',h4,h5 =>
  obtain ⟨a,b,c,rfl⟩:=mapM_two (show List.mapM (snapA st.own false) (st3 σ v::st3 σ u::w.map (st3 σ))=some l' from h4)
  obtain ⟨e,hc⟩:=h5
  refine ⟨?_,hc⟩
  rw[←e]
  have h4:List.mapM (snapA st.own false) (st3 σ v::st3 σ u::w.map (st3 σ))=some (a::b::c):=h4
  show Option.map AV.tup (List.mapM (snapA st.own false) (st3 σ v::st3 σ u::w.map (st3 σ)))=_
  rw[h4];rfl
def datA:AV→Bool
 | .agg cs=>datL cs
 | v=>dat v
def datAL:List AV→Bool
 | []=>true
 | v::r=>bif datA v then datAL r else false
theorem datA_st3 {v:AV} (h:datA v=true):st3 σ v=v:=by
 cases v with
 | agg cs=>simp only[datA]at h;simp only[st3,st2,datL_st1 h]
 | _=>first|rfl|cases h
theorem datAL_tg {σ:Stp} : ∀ {vs:List AV} {i:Nat},datAL vs=true → ∀ j,tget (initTm i vs) j=st3 σ (tget (initTm i vs) j)
 | [],_,_,_=>rfl
 | v::r,i,h,j=>by
  simp only[datAL]at h
  cases hv:datA v<;>simp only[hv,cond_true,cond_false]at h
  ·cases h
  ·simp only[initTm_cons,tget_cons]
   split
   ·exact (datA_st3 hv).symm
   ·exact datAL_tg h j
theorem EvD.x {f:Nat} {fn:AFn} {vs:List AV} {r:AV} (hL:L f=some fn) (hp:Nat.beq vs.length fn.pars=true) (hd:datAL vs=true) (h:AKM L [.code fn.body] (initTm 0 vs) [] (RetX fn r)):EvD L f vs r:=by
 refine EvD.fwd hL (beq_iff.1 hp) (AK_mono (h (fun _ _=>(0,0)) ⟨initTm 0 vs,Own.emp⟩ ⟨fun j=>Or.inr ?_,?_⟩) ?_)
 ·rw[tg_eq];exact datAL_tg hd j
 ·exact ⟨(fun _ _ _ e=>by cases e),(fun _ _ _ e=>by simp [mref,mget]at e),(fun _ _ _ e=>by simp [mref,mget]at e),(fun _ _ _ _ _ _ e=>by simp [mref,mget]at e),(fun _ _ _ e=>by simp [mref,mget]at e)⟩
 ·rintro s ⟨σ,tm,M,hr,hq⟩
  exact RetX_sound hr hq
theorem Ev.x {f:Nat} {fn:AFn} {vs:List AV} {r:AV} (hL:L f=some fn) (hp:Nat.beq vs.length fn.pars=true) (hd:datAL vs=true) (h:AKM L [.code fn.body] (initTm 0 vs) [] (RetX fn r)) (hs:fn.spl=false:=by rfl):Ev L f vs r:=(EvD.x hL hp hd h).ev hL hs
def rkL:List (Nat × Nat)→Nat→Nat
 | [],k=>k
 | (a,b)::r,k=>bif Nat.beq k a then b else rkL r k
def rk1 (τ:List (Nat × Nat)):AV→AV
 | .row k t z o n => .row (rkL τ k) t z o n
 | .ptr k t i j => .ptr (rkL τ k) t i j
 | v=>v
def rkC1 (τ:List (Nat × Nat)):List AV→List AV
 | []=>[]
 | v::r=>rk1 τ v::rkC1 τ r
def rk2 (τ:List (Nat × Nat)):AV→AV
 | .agg cs => .agg (rkC1 τ cs)
 | .fn p f g cs => .fn p f g (rkC1 τ cs)
 | v=>rk1 τ v
def rkC2 (τ:List (Nat × Nat)):List AV→List AV
 | []=>[]
 | v::r=>rk2 τ v::rkC2 τ r
def rk3 (τ:List (Nat × Nat)):AV→AV
 | .tup cs => .tup (rkC2 τ cs)
 | v=>rk2 τ v
def rkCC (τ:List (Nat × Nat)):List (List AV)→List (List AV)
 | []=>[]
 | v::r=>rkC1 τ v::rkCC τ r
def rkC (τ:List (Nat × Nat)):Cel→Cel
 | .bx cs => .bx (rkC1 τ cs)
 | .rw z es => .rw z es
 | .bs z es => .bs z (rkCC τ es)
 | .mx rows => .mx rows
 | .hx i v rows => .hx i v rows
 | .vw w rows => .vw w rows
variable {τ:List (Nat × Nat)}
theorem rkC1_eq : ∀ l:List AV,rkC1 τ l=l.map (rk1 τ)
 | []=>rfl
 | v::r=>by rw[rkC1,rkC1_eq r];rfl
theorem rkC2_eq : ∀ l:List AV,rkC2 τ l=l.map (rk2 τ)
 | []=>rfl
 | v::r=>by rw[rkC2,rkC2_eq r];rfl
theorem st1_rk (v:AV):st1 (fun k t=>σ (rkL τ k) t) v=st1 σ (rk1 τ v):=by cases v<;>rfl
theorem st2_rk (v:AV):st2 (fun k t=>σ (rkL τ k) t) v=st2 σ (rk2 τ v):=by
 cases v with
 | agg cs=>simp only[st2,rk2,rkC1_eq,List.map_map];exact congrArg AV.agg (List.map_congr_left fun v _=>st1_rk v)
 | fn p f g cs=>simp only[st2,rk2,rkC1_eq,List.map_map];exact congrArg (AV.fn p f g) (List.map_congr_left fun v _=>st1_rk v)
 | _=>rfl
theorem st3_rk (v:AV):st3 (fun k t=>σ (rkL τ k) t) v=st3 σ (rk3 τ v):=by
 cases v with
 | tup cs=>simp only[st3,rk3,rkC2_eq,List.map_map];exact congrArg AV.tup (List.map_congr_left fun v _=>st2_rk v)
 | agg cs=>exact st2_rk (.agg cs)
 | fn p f g cs=>exact st2_rk (.fn p f g cs)
 | _=>rfl
theorem rkCC_eq : ∀ l:List (List AV),rkCC τ l=l.map (rkC1 τ)
 | []=>rfl
 | v::r=>by rw[rkCC,rkCC_eq r];rfl
theorem mxB_rk {k:Nat} : ∀ (rows:List (Option (Nat × List (List AV)))) (i:Nat),mxB (fun k t=>σ (rkL τ k) t) k i rows=mxB σ (rkL τ k) i rows
 | [],i=>rfl
 | none::r,i=>by rw[mxB,mxB,mxB_rk r]
 | some (z,es)::r,i=>by rw[mxB,mxB,mxB_rk r]
theorem blk_rk (c:Cel) (k:Nat):c.blk (fun k t=>σ (rkL τ k) t) k=(rkC τ c).blk σ (rkL τ k):=by
 cases c with
 | bx cs =>
  simp only[Cel.blk,rkC,rkC1_eq,List.length_map,List.map_map]
  rw[List.map_congr_left fun v _=>st1_rk v];rfl
 | rw z es=>rfl
 | bs z es =>
  simp only[Cel.blk,rkC,rkCC_eq,List.map_map]
  congr 1
  refine List.map_congr_left fun cs _ => ?_
  simp only[Function.comp,rkC1_eq,List.map_map]
  exact List.map_congr_left fun v _=>st1_rk v
 | mx rows=>simp only[Cel.blk,rkC,mxB_rk]
 | hx i v rows=>simp only[Cel.blk,rkC,mxB_rk]
 | vw w rows=>simp only[Cel.blk,rkC,mxB_rk]
def mput (k s:Nat) (c:Cel):Mem→Mem
 | []=>[(k,s,c)]
 | (j,s',c')::r=>bif Nat.beq k j then (k,s,c)::r else (j,s',c')::mput k s c r
def mcan:Mem→Mem
 | []=>[]
 | (k,s,c)::r=>mput k s c (mcan r)
theorem mget_mput (k s:Nat) (c:Cel) (j:Nat) : ∀ M:Mem,mget (mput k s c M) j=bif Nat.beq j k then some (s,c) else mget M j
 | []=>rfl
 | (i,s',c')::r=>by
  simp only[mput]
  cases hk:Nat.beq k i
  ·simp only[cond_false,mget,mget_mput k s c j r]
   cases hj:Nat.beq j i<;>cases hjk:Nat.beq j k<;>simp only[cond_true,cond_false]
   exact absurd ((beq_iff.1 hjk).symm.trans (beq_iff.1 hj)) (beq_false.1 hk)
  ·obtain rfl:=beq_iff.1 hk
   simp only[cond_true,mget]
   cases Nat.beq j k<;>rfl
theorem mget_mcan (j:Nat) : ∀ M:Mem,mget (mcan M) j=mget M j
 | []=>rfl
 | (k,s,c)::r=>by simp only[mcan,mget_mput,mget_mcan j r,mget]
theorem mref_mcan (k t:Nat):mref (mcan M) k t=mref M k t:=by simp only[mref,mget_mcan]
def memt (τ:List (Nat × Nat)) (M:Mem):List (Nat × Nat × Cel)→List (Option (Nat × Cel))
 | []=>[]
 | (k,_,_)::r=>mget M (rkL τ k)::memt τ M r
def memw (τ:List (Nat × Nat)):List (Nat × Nat × Cel)→List (Option (Nat × Cel))
 | []=>[]
 | (_,s,c)::r=>some (s,rkC τ c)::memw τ r
def tmt (tm:Tm):Tm→List AV
 | []=>[]
 | (j,_)::r=>tg tm j::tmt tm r
def tmw (τ:List (Nat × Nat)):Tm→List AV
 | []=>[]
 | (_,v)::r=>rk3 τ v::tmw τ r
def nodB:List Nat→Bool
 | []=>true
 | k::r=>bif memN k r then false else nodB r
def keys (τ:List (Nat × Nat)):Mem→List Nat
 | []=>[]
 | (k,_,_)::r=>rkL τ k::keys τ r
theorem mem_w : ∀ {M':Mem} {M:Mem},memt τ M M'=memw τ M' → ∀ k s c,mget M' k=some (s,c)→mget M (rkL τ k)=some (s,rkC τ c)
 | [],_,_,_,_,_,e=>by cases e
 | (i,s',c')::r,M,h,k,s,c,e=>by
  simp only[memt,memw,List.cons.injEq]at h
  simp only[mget]at e
  cases hb:Nat.beq k i<;>simp only[hb,cond_true,cond_false]at e
  ·exact mem_w h.2 k s c e
  ·simp only[Option.some.injEq,Prod.mk.injEq]at e
   obtain ⟨rfl,rfl⟩:=e
   rw[beq_iff.1 hb];exact h.1
theorem mem_keys : ∀ {M:Mem} {k s:Nat} {c:Cel},mget M k=some (s,c)→memN (rkL τ k) (keys τ M)=true
 | (i,s',c')::r,k,s,c,e=>by
  simp only[mget]at e
  simp only[keys,memN]
  cases hb:Nat.beq k i<;>simp only[hb,cond_true,cond_false]at e
  ·rw[mem_keys e];cases Nat.beq (rkL τ k) (rkL τ i)<;>rfl
  ·rw[beq_iff.1 hb];simp
theorem nod_inj : ∀ {M:Mem},nodB (keys τ M)=true → ∀ {k k' s s':Nat} {c c':Cel},mget M k=some (s,c)→mget M k'=some (s',c')→rkL τ k=rkL τ k'→k=k'
 | [],_,_,_,_,_,_,_,e,_,_=>by cases e
 | (i,s0,c0)::r,h,k,k',s,s',c,c',e,e',hk=>by
  simp only[keys,nodB]at h
  cases hm:memN (rkL τ i) (keys τ r)<;>simp only[hm,cond_true,cond_false]at h
  ·simp only[mget]at e e'
   cases hb:Nat.beq k i<;>cases hb':Nat.beq k' i<;>simp only[hb,hb',cond_true,cond_false]at e e'
   ·exact nod_inj h e e' hk
   ·obtain rfl:=beq_iff.1 hb'
    have:=mem_keys (τ:=τ) e
    rw[hk,hm]at this;cases this
   ·obtain rfl:=beq_iff.1 hb
    have:=mem_keys (τ:=τ) e'
    rw[←hk,hm]at this;cases this
   ·exact (beq_iff.1 hb).trans (beq_iff.1 hb').symm
  ·cases h
theorem tm_w : ∀ {tm':Tm} {tm:Tm},tmt tm tm'=tmw τ tm' → ∀ j,tg tm' j = .any∨tg tm j=rk3 τ (tg tm' j)
 | [],_,_,_=>Or.inl rfl
 | (i,v)::r,tm,h,j=>by
  simp only[tmt,tmw,List.cons.injEq]at h
  simp only[tg]
  cases hb:Nat.beq j i<;>simp only[cond_true,cond_false]
  ·exact tm_w h.2 j
  ·rw[beq_iff.1 hb];exact Or.inr h.1
def tdel (ts:List Nat) (tm:Tm):Tm:=match ts with
 | []=>tm
 | t::ts=>cnm (mask 0 (t::ts)) tm
def EqX (τ:List (Nat × Nat)) (tm:Tm) (M:Mem) (tm':Tm) (M':Mem):Prop :=
 fT (cnm 0 tm') fun l=>fM (mcan M') fun m=>tmt tm l=tmw τ l∧memt τ M m=memw τ m∧nodB (keys τ m)=true
theorem AKM.back {k:List It} {tm':Tm} {M':Mem} {Q:Tm→Mem→Prop} (τ:List (Nat × Nat)) (he:EqX τ tm M tm' M') (h:AKM L k tm' M' Q):AKM L k tm M Q:=by
 unfold EqX at he
 rw[fT_eq,fM_eq]at he
 obtain ⟨ht,hm,hn⟩:=he
 intro σ st hr
 have hg : ∀ k s c,mget M' k=some (s,c)→mget M (rkL τ k)=some (s,rkC τ c):=fun k s c e=>mem_w hm k s c (by rw[mget_mcan];exact e)
 have hgr : ∀ k t c,mref M' k t=some c→mref M (rkL τ k) t=some (rkC τ c):=by
  intro k t c e
  obtain ⟨s,c0,g1,g2,g3⟩:=mref_some e
  have:=hg k s c0 g1
  cases t with
  | zero=>rw[g2 rfl];exact mref_root this
  | succ i =>
   obtain ⟨rows,z,es,(rfl|⟨a,v,rfl⟩)|⟨w,rfl⟩,hr,rfl⟩:=g3 i rfl
   ·simp [mref,this,rkC,hr]
   ·simp [mref,this,rkC,hr]
   ·simp [mref,this,rkC,hr]
 refine h (fun k t=>σ (rkL τ k) t) st ⟨fun j => ?_,⟨?_,?_,?_,?_,?_⟩⟩
 ·have:=tm_w ht j
  rw[tg_cnm,bit_zero,cond_false]at this
  rcases this with e|e
  ·exact Or.inl e
  ·rcases hr.tm j with e'|e'
   ·left
    rw[e']at e
    cases hv:tg tm' j<;>rw[hv]at e<;>first|rfl|cases e
   ·right
    rw[e',e,st3_rk]
 ·intro k s c e;exact hr.sat.site _ _ _ (hg k s c e)
 ·intro k t c e;rw[blk_rk];exact hr.sat.blk _ _ _ (hgr k t c e)
 ·intro k t c e;exact hr.sat.old _ _ _ (hgr k t c e)
 ·intro k t k' t' c c' e e' hk
  obtain ⟨q1,q2⟩:=hr.sat.inj _ _ _ _ _ _ (hgr _ _ _ e) (hgr _ _ _ e') hk
  obtain ⟨s,c0,g,_⟩:=mref_some e
  obtain ⟨s',c0',g',_⟩:=mref_some e'
  exact ⟨nod_inj hn (by rw[mget_mcan];exact g) (by rw[mget_mcan];exact g') q1,q2⟩
 ·intro k t c e hw
  exact hr.sat.low _ _ _ (hgr k t c e) (by cases c<;>exact hw)
theorem AKM.can {k:List It} {Q:Tm→Mem→Prop} (h:AKM L k (cnm 0 tm) (mcan M) Q):AKM L k tm M Q:=by
 intro σ st hr
 refine h σ st ⟨fun j => ?_,⟨?_,?_,?_,?_,?_⟩⟩
 ·rw[tg_cnm,bit_zero,cond_false];exact hr.tm j
 ·intro k s c e;rw[mget_mcan]at e;exact hr.sat.site _ _ _ e
 ·intro k t c e;rw[mref_mcan]at e;exact hr.sat.blk _ _ _ e
 ·intro k t c e;rw[mref_mcan]at e;exact hr.sat.old _ _ _ e
 ·intro k t k' t' c c' e e' hk
  rw[mref_mcan]at e e'
  exact hr.sat.inj _ _ _ _ _ _ e e' hk
 ·intro k t c e hw;rw[mref_mcan]at e;exact hr.sat.low _ _ _ e hw
theorem AKM.lp {k:List It} {c:ACode} {Q:Tm→Mem→Prop} (h:AKM L (.code c :: .lp c::k) tm M Q):AKM L (.lp c::k) tm M Q:=fun σ st hr=>AK_lp.2 (h σ st hr)
theorem AKM.loop {α:Type} {k:List It} {c:ACode} {Q:Tm→Mem→Prop} (m:α→Nat) (P:α→Prop) (vs:α→Tm) (Ms:α→Mem) (ts:List Nat) (τ:List (Nat × Nat)) (a:α)
  (he:EqX τ tm M (vs a++tdel ts tm) (Ms a++M)) (hp:P a)
  (step : ∀ a,P a→(∀ a',m a'<m a→P a'→AKM L (.lp c::k) (vs a'++tdel ts tm) (Ms a'++M) Q)→AKM L (.code c :: .lp c::k) (vs a++tdel ts tm) (Ms a++M) Q):AKM L (.lp c::k) tm M Q:=by
 have key : ∀ n a,m a<n→P a→AKM L (.lp c::k) (vs a++tdel ts tm) (Ms a++M) Q:=by
  intro n
  induction n with
  | zero=>intro a h;omega
  | succ n ih =>
   intro a ha hp
   exact AKM.lp (step a hp fun a' h1 h2=>ih a' (by omega) h2)
 exact AKM.back τ he (key (m a+1) a (by omega) hp)
end
end Go.Eng
namespace Go.Eng
section
variable {α:Type} {enc:α→List AV} {l:List α} {L:Lib}
theorem CmpP.go {p q A B:Prop} (h1:p→A) (h2:q→B):CmpP p q A B:=⟨h1,h2⟩
theorem Req.go {p A:Prop} (h1:p) (h2:A):Req p A:=⟨h1,h2⟩
section
variable {K:AV→Prop} {a b:Int} {k k':IntKind} {op:BinOp}
theorem OpP.go {v:AV} (h:intBin op k a k' b=some v) (hk:K v):OpP op k a k' b K:=⟨v,h,hk⟩
theorem OpP.add (hr : -9223372036854775808≤a+b∧a+b≤9223372036854775807) (hk:K (.int .i64 (a+b))):OpP .add .i64 a .i64 b K:=⟨_,by simp only[intBin,if_true];rw[IntWalk.i64_in _ hr],hk⟩
theorem OpP.sub (hr : -9223372036854775808≤a-b∧a-b≤9223372036854775807) (hk:K (.int .i64 (a-b))):OpP .sub .i64 a .i64 b K:=⟨_,by simp only[intBin,if_true];rw[IntWalk.i64_in _ hr],hk⟩
theorem OpP.mul (hr : -9223372036854775808≤a*b∧a*b≤9223372036854775807) (hk:K (.int .i64 (a*b))):OpP .mul .i64 a .i64 b K:=⟨_,by simp only[intBin,if_true];rw[IntWalk.i64_in _ hr],hk⟩
theorem OpP.rem (hb:0<b) (h1:(0≤a∨a%b=0)→0≤a%b→a%b<b→K (.int .i64 (a%b))) (h2:a<0→a%b≠0→0≤a%b→a%b<b→K (.int .i64 (a%b-b))):OpP .rem .i64 a .i64 b K:=by
 have h5:0≤a%b:=Int.emod_nonneg _ (by omega)
 have h6:a%b<b:=Int.emod_lt_of_pos _ hb
 have e:intBin .rem .i64 a .i64 b=some (.int .i64 (a.tmod b)):=by simp only[intBin];rw[if_pos ⟨trivial,by omega⟩]
 by_cases hc:0≤a∨a%b=0
 ·rw[tmod_pos hb,if_pos hc]at e
  exact ⟨_,e,h1 hc h5 h6⟩
 ·rw[tmod_pos hb,if_neg hc]at e
  exact ⟨_,e,h2 (by omega) (by omega) h5 h6⟩
theorem OpP.quo (hb:0<b) (ha : -9223372036854775808≤a∧a≤9223372036854775807) (h1:(0≤a∨a%b=0)→K (.int .i64 (a/b))) (h2:a<0→a%b≠0→K (.int .i64 (a/b+1))):OpP .quo .i64 a .i64 b K:=by
 have hr:=ediv_range (m:=b) (by omega) ha
 have e:intBin .quo .i64 a .i64 b=some (.int .i64 (IntKind.i64.wrap (a.tdiv b))):=by simp only[intBin];rw[if_pos ⟨trivial,by omega⟩]
 by_cases hc:0≤a∨a%b=0
 ·rw[tdiv_pos hb,if_pos hc,IntWalk.i64_in _ hr]at e
  exact ⟨_,e,h1 hc⟩
 ·have hneg:a/b<0:=Int.ediv_neg_of_neg_of_pos (by omega) hb
  rw[tdiv_pos hb,if_neg hc,IntWalk.i64_in _ (by omega)]at e
  exact ⟨_,e,h2 (by omega) (by omega)⟩
theorem OpP.shr (h:0≤b∧b≤63) (hk:K (.int .i64 (a/pw b))):OpP .shr .i64 a k' b K:=⟨_,shr_div h,hk⟩
theorem OpP.wadd (hk:K (.int k (k.wrap (a+b)))):OpP .add k a k b K:=⟨_,by simp only[intBin,if_true],hk⟩
theorem UnP.neg (hr : -9223372036854775808 ≤ -a ∧ -a≤9223372036854775807) (hk:K (.int .i64 (-a))):UnP .neg .i64 a K:=⟨_,by simp only[unA];rw[show (0:Int)-a = -a by omega,IntWalk.i64_in _ hr],hk⟩
theorem UnP.go {op:UnOp} {v:AV} (h:unA op (.int k a)=some v) (hk:K v):UnP op k a K:=⟨v,h,hk⟩
end
theorem ConvP.go {k:IntKind} {n:Int} {K:Int→Prop} (h:K (k.wrap n)):ConvP k n K:=h
theorem ConvP.id {k:IntKind} {n:Int} {K:Int→Prop} (e:k.wrap n=n) (h:K n):ConvP k n K:=by unfold ConvP;rw[e];exact h
theorem ConvP.u64 {n:Int} {K:Int→Prop} (hr:0≤n∧n≤18446744073709551615) (h:K n):ConvP .u64 n K:=ConvP.id (IntWalk.u64_in _ hr) h
theorem ConvP.i64 {n:Int} {K:Int→Prop} (hr : -9223372036854775808≤n∧n≤9223372036854775807) (h:K n):ConvP .i64 n K:=ConvP.id (IntWalk.i64_in _ hr) h
theorem RdP.at {a:Int} {z:Nat} {K:List AV→Prop} {e:α} (he:l[a.toNat]? = some e) (h0:0≤a) (hz:(enc e).length=z) (h:K (enc e)):RdP (l.map enc) a z K:=⟨h0,enc e,by simp [he],hz,h⟩
theorem RdP.go {a:Int} {z:Nat} {K:List AV→Prop} (h0:0≤a∧a<l.length) (hz : ∀ e,(enc e).length=z) (h : ∀ e,l[a.toNat]? = some e→K (enc e)):RdP (l.map enc) a z K:=by
 have he:l[a.toNat]? = some (l[a.toNat]'(by omega)):=zE _
 exact RdP.at he h0.1 (hz _) (h _ he)
theorem RdP.nat {n z:Nat} {K:List AV→Prop} (hn:n<l.length) (hz : ∀ e,(enc e).length=z) (h : ∀ e,l[n]? = some e→K (enc e)):RdP (l.map enc) (n:Int) z K :=
 RdP.go ⟨by omega,by omega⟩ hz h
theorem LdR.nat {i j n:Nat} {K:List AV→Prop} {f:α→List AV} (hi:i<l.length) (hp : ∀ e,part (enc e) j n=some (f e)) (h : ∀ e,l[i]? = some e→K (f e)):LdR (l.map enc) (0+((i:Int)).toNat) j n K:=by
 have he:l[i]? = some l[i]:=zE _
 rw[Nat.zero_add,Int.toNat_natCast]
 exact ⟨enc l[i],f l[i],by simp [he],hp _,h _ he⟩
theorem LdR.int {i:Int} {j n:Nat} {K:List AV→Prop} {f:α→List AV} (hi:0≤i∧i<l.length) (hp : ∀ e,part (enc e) j n=some (f e)) (h : ∀ e,l[i.toNat]? = some e→K (f e)):LdR (l.map enc) (0+i.toNat) j n K:=by
 have hl:i.toNat<l.length:=by omega
 have he:l[i.toNat]? = some l[i.toNat]:=zE _
 rw[Nat.zero_add]
 exact ⟨enc l[i.toNat],f l[i.toNat],by rw[List.getElem?_map,he];rfl,hp _,h _ he⟩
theorem StR.nat {i:Nat} {vs:List AV} {K:List (List AV)→Prop} (e:α) (he:vs=enc e) (hz : ∀ x,(enc x).length=vs.length) (hi:i<l.length) (h:K ((l.set i e).map enc)):StR (l.map enc) (0+((i:Int)).toNat) 0 vs K:=by
 rw[Nat.zero_add,Int.toNat_natCast]
 refine ⟨enc l[i],by simp [zE hi],by rw[hz];omega,?_⟩
 rw[show splice (enc l[i]) 0 vs=vs by simp [splice,←hz l[i]],he,←List.map_set];exact h
theorem LdR.at {i j n:Nat} {K:List AV→Prop} {e:α} {ds:List AV} (he:l[i]? = some e) (hp:part (enc e) j n=some ds) (h:K ds):LdR (l.map enc) i j n K:=⟨enc e,ds,by simp [he],hp,h⟩
theorem LdR.go {i j n:Nat} {K:List AV→Prop} (f:α→List AV) (hi:i<l.length) (hp : ∀ e,part (enc e) j n=some (f e)) (h : ∀ e,l[i]? = some e→K (f e)):LdR (l.map enc) i j n K:=by
 have he:l[i]? = some l[i]:=zE _
 exact LdR.at he (hp _) (h _ he)
theorem splice_all {cs vs:List AV} (h:cs.length=vs.length):splice cs 0 vs=vs:=by
 simp [splice,←h]
theorem StR.go {i:Nat} {vs:List AV} {K:List (List AV)→Prop} (e:α) (he:vs=enc e) (hz : ∀ x,(enc x).length=vs.length) (hi:i<l.length) (h:K ((l.set i e).map enc)):StR (l.map enc) i 0 vs K:=by
 refine ⟨enc l[i],by simp [zE hi],by rw[hz];omega,?_⟩
 rw[splice_all (hz _),he,←List.map_set];exact h
theorem MkR.go {a b:Int} {bytes:Nat} {zero:List AV} {K:List (List AV)→Nat→Prop} (x:α) (n:Nat) (hx:zero=enc x) (hn:a=n) (hr:a≤b∧b*bytes≤140737488355328∧b≤9223372036854775807) (h:K ((List.replicate n x).map enc) n):MkR a b bytes zero K:=by
 subst hn hx
 refine ⟨⟨by omega,hr.1,by simpa [roomMax] using hr.2.1,hr.2.2⟩,?_⟩
 simpa using h
theorem LenP.go {K:Nat→Prop} (h:K l.length):LenP (l.map enc) K:=by unfold LenP;simpa using h
theorem AppR.one {len z bytes:Nat} {vs:List AV} {K:List (List AV)→Nat→Prop} (e:α) (he:vs=enc e) (hl:len=l.length) (hz:vs.length=z) (hr:(l.length+1)*bytes≤140737488355328) (hr2:l.length+1≤9223372036854775807) (h:K ((l++[e]).map enc) (l++[e]).length):AppR (l.map enc) len [vs] z bytes K:=by
 subst hl
 refine ⟨by simp,by simpa using hz,by simpa [roomMax] using hr,by simpa using hr2,?_⟩
 rw[List.take_of_length_le (by simp)]
 simpa [he] using h
theorem AppR.many {len z bytes:Nat} {l':List α} {K:List (List AV)→Nat→Prop} (hl:len=l.length) (hz : ∀ x,(enc x).length=z) (hr:(l.length+l'.length)*bytes≤140737488355328) (hr2:l.length+l'.length≤9223372036854775807) (h:K ((l++l').map enc) (l++l').length):AppR (l.map enc) len (l'.map enc) z bytes K:=by
 subst hl
 refine ⟨by simp,by simp [hz],by simpa [roomMax] using hr,by simpa using hr2,?_⟩
 rw[List.take_of_length_le (by simp)]
 simpa using h
theorem AppN.one {z bytes:Nat} {vs:List AV} {K:List (List AV)→Nat→Prop} (e:α) (he:vs=enc e) (hz:vs.length=z) (hb:bytes≤140737488355328) (h:K ([e].map enc) 1):AppN [vs] z bytes K :=
 ⟨by simpa using hz,by simpa [roomMax] using hb,by simp,by simpa [he] using h⟩
theorem AppN.many {z bytes:Nat} {K:List (List AV)→Nat→Prop} (hz : ∀ x,(enc x).length=z) (hr:l.length*bytes≤140737488355328) (hr2:l.length≤9223372036854775807) (h:K (l.map enc) l.length):AppN (l.map enc) z bytes K :=
 ⟨by simp [hz],by simpa [roomMax] using hr,by simpa using hr2,by simpa using h⟩
theorem CpyR.all {len z:Nat} {l':List α} {K:List (List AV)→Nat→Prop} (hl:len=l.length) (hl':l'.length=l.length) (hz : ∀ x,(enc x).length=z) (h:K (l'.map enc) l'.length):CpyR (l.map enc) 0 len (l'.map enc) z K:=by
 subst hl
 refine ⟨by simp,by simp [hz],?_⟩
 have e:min (l'.map enc).length l.length=l.length:=by simp [hl']
 rw[e,List.take_zero,List.nil_append,List.take_of_length_le (by simp [hl']),List.drop_of_length_le (by simp),List.append_nil,←hl']
 exact h
theorem RowP.all {off len:Nat} {K:List (List AV)→Prop} (ho:off=0) (hl:len=l.length) (h:K (l.map enc)):RowP (l.map enc) off len K:=by
 subst hl ho
 exact ⟨by simp,by rw[List.drop_zero,List.take_of_length_le (by simp)];exact h⟩
theorem RowP.part {off len:Nat} {K:List (List AV)→Prop} (hl:off+len≤l.length) (h:K (((l.drop off).take len).map enc)):RowP (l.map enc) off len K :=
 ⟨by simpa using hl,by rw[←List.map_drop,←List.map_take];exact h⟩
theorem okE_nl : ∀ {e:List AV},okE e=true→okN e=true∧e.map nl=e
 | [],_=>⟨rfl,rfl⟩
 | v::r,h=>by
  have hv:okE r=true:=by cases v<;>simp only[okE]at h<;>first|cases h|exact h
  obtain ⟨h1,h2⟩:=okE_nl hv
  cases v<;>simp only[okE]at h<;>first|cases h|exact ⟨h1,by rw[List.map_cons,h2];rfl⟩
theorem okEL_nl : ∀ {es:List (List AV)},(∀ e∈es,okE e=true)→es.map (fun e=>e.map nl)=es
 | [],_=>rfl
 | e::r,h=>by rw[List.map_cons,(okE_nl (h e List.mem_cons_self)).2,okEL_nl fun x hx=>h x (List.mem_cons_of_mem _ hx)]
theorem SnR.mk {es:List (List AV)} {off len:Nat} {K:List (List AV)→Prop} (hl:off+len≤es.length) (hz : ∀ e∈es,okE e=true) (h:K ((es.drop off).take len)):SnR es off len K :=
 ⟨hl,fun e he=>(okE_nl (hz e he)).1,by rw[okEL_nl fun e he=>hz e (List.mem_of_mem_drop (List.mem_of_mem_take he))];exact h⟩
theorem SnR.all {off len:Nat} {K:List (List AV)→Prop} (hz : ∀ x,okE (enc x)=true) (ho:off=0) (hl:len=l.length) (h:K (l.map enc)):SnR (l.map enc) off len K:=by
 subst hl ho
 refine SnR.mk (by simp) (fun e he => ?_) (by rw[List.drop_zero,List.take_of_length_le (by simp)];exact h)
 obtain ⟨x,_,rfl⟩:=List.mem_map.1 he
 exact hz x
theorem SnR.part {off len:Nat} {K:List (List AV)→Prop} (hz : ∀ x,okE (enc x)=true) (hl:off+len≤l.length) (h:K (((l.drop off).take len).map enc)):SnR (l.map enc) off len K:=by
 refine SnR.mk (by simpa using hl) (fun e he => ?_) (by rw[←List.map_drop,←List.map_take];exact h)
 obtain ⟨x,_,rfl⟩:=List.mem_map.1 he
 exact hz x
theorem RowP.e0 {K:List (List AV)→Prop} (h:K []):RowP [] 0 0 K:=⟨by simp,h⟩
theorem RowP.e1 {e:List AV} {K:List (List AV)→Prop} (h:K [e]):RowP [e] 0 1 K:=⟨by simp,h⟩
theorem RowP.e2 {e e':List AV} {K:List (List AV)→Prop} (h:K [e,e']):RowP [e,e'] 0 2 K:=⟨by simp,h⟩
theorem SnR.e0 {K:List (List AV)→Prop} (h:K []):SnR [] 0 0 K:=⟨by simp,by simp,h⟩
theorem SnR.e1 {e:List AV} {K:List (List AV)→Prop} (h0:okE e=true) (h:K [e]):SnR [e] 0 1 K:=SnR.mk (by simp) (by simpa using h0) h
theorem SnR.e2 {e e':List AV} {K:List (List AV)→Prop} (h0:okE e=true) (h1:okE e'=true) (h:K [e,e']):SnR [e,e'] 0 2 K:=SnR.mk (by simp) (by simpa using ⟨h0,h1⟩) h
theorem SnR.n2 {e':List AV} {K:List (List AV)→Prop} (h1:okE e'=true) (h:K [[.sl false []],e']):SnR [[.nil],e'] 0 2 K :=
 ⟨by simp,by simpa using ⟨rfl,(okE_nl h1).1⟩,by simpa [(okE_nl h1).2,nl] using h⟩
section
variable {β:Type} {z:Nat} {ll:List (List β)} {en:β→List AV}
abbrev mxR (z:Nat) (en:β→List AV) (ll:List (List β)):List (Option (Nat × List (List AV))):=ll.map fun r=>some (z,r.map en)
theorem LdM.nat {i:Nat} {K:Option (Nat × List (List AV))→Prop} (hi:i<ll.length) (h : ∀ r,ll[i]? = some r→K (some (z,r.map en))):LdM (mxR z en ll) (0+((i:Int)).toNat) K:=by
 have he:ll[i]? = some ll[i]:=zE _
 exact ⟨_,by rw[Nat.zero_add,Int.toNat_natCast,List.getElem?_map,he];rfl,h _ he⟩
theorem LdM.int {i:Int} {K:Option (Nat × List (List AV))→Prop} (hi:0≤i∧i<ll.length) (h : ∀ r,ll[i.toNat]? = some r→K (some (z,r.map en))):LdM (mxR z en ll) (0+i.toNat) K:=by
 have hl:i.toNat<ll.length:=by omega
 have he:ll[i.toNat]? = some ll[i.toNat]:=zE _
 exact ⟨_,by rw[Nat.zero_add,List.getElem?_map,he];rfl,h _ he⟩
theorem GetM.at {i:Nat} {K:Nat→List (List AV)→Prop} {r:List β} (hr:ll[i]? = some r) (h:K z (r.map en)):GetM (mxR z en ll) i K :=
 ⟨z,r.map en,by rw[List.getElem?_map,hr];rfl,h⟩
theorem GetM.ati {i:Nat} {K:Nat→List (List AV)→Prop} {r:List β} (hr:ll[i]? = some r) (h:K z (r.map en)):GetM (mxR z en ll) (0+((i:Int)).toNat) K:=by
 rw[Nat.zero_add,Int.toNat_natCast];exact GetM.at hr h
theorem SetM.nat {i:Nat} {r:List β} {K:List (Option (Nat × List (List AV)))→Prop} (hi:i<ll.length) (h:K (mxR z en (ll.set i r))):SetM (mxR z en ll) (0+((i:Int)).toNat) z (r.map en) K:=by
 rw[Nat.zero_add,Int.toNat_natCast]
 exact ⟨by simpa using hi,by simpa [mxR,List.map_set] using h⟩
theorem PutM.nat {i:Nat} {r r':List β} {K:List (Option (Nat × List (List AV)))→Prop} (hl:r'.length=r.length) (h:K (mxR z en (ll.set i r'))):PutM (mxR z en ll) (0+((i:Int)).toNat) z (r.map en) (r'.map en) K:=by
 rw[Nat.zero_add,Int.toNat_natCast]
 exact ⟨by simpa using hl,by simpa [mxR,List.map_set] using h⟩
theorem AppM.go {len bytes:Nat} {r:List β} {K:List (Option (Nat × List (List AV)))→Nat→Prop} (hl:len=ll.length) (hr:(ll.length+1)*bytes≤140737488355328) (hr2:ll.length+1≤9223372036854775807) (h:K (mxR z en (ll++[r])) (ll++[r]).length):AppM (mxR z en ll) len (some (z,r.map en)) bytes K:=by
 subst hl
 exact ⟨by simp,by simpa [roomMax] using hr,hr2,by simpa [mxR] using h⟩
theorem AppM.any {rows:List (Option (Nat × List (List AV)))} {len bytes:Nat} {r:Option (Nat × List (List AV))} {K:List (Option (Nat × List (List AV)))→Nat→Prop} (hl:len=rows.length) (hr:(rows.length+1)*bytes≤140737488355328) (hr2:rows.length+1≤9223372036854775807) (h:K (rows++[r]) (rows++[r]).length):AppM rows len r bytes K:=by
 subst hl
 exact ⟨rfl,by simpa [roomMax] using hr,hr2,by simpa using h⟩
theorem rowsE_map (q:Bool) : ∀ ll:List (List β),rowsE q (mxR z en ll)=ll.map fun r=>[AV.sl q (r.map en)]
 | []=>rfl
 | r::l=>by simp only[mxR,List.map_cons,rowsE];rw[show rowsE q (l.map fun r=>some (z,r.map en))=_ from rowsE_map q l]
theorem SnM.all {q:Bool} {off len:Nat} {K:List (List AV)→Prop} (hz : ∀ x,okE (en x)=true) (ho:off=0) (hl:len=ll.length) (h:K (ll.map fun r=>[AV.sl q (r.map en)])):SnM q (mxR z en ll) off len K:=by
 refine ⟨ho,by simpa using hl,fun z' es hm e he => ?_,by rw[rowsE_map];exact h⟩
 obtain ⟨r,_,hr⟩:=List.mem_map.1 hm
 simp only[Option.some.injEq,Prod.mk.injEq]at hr
 obtain ⟨rfl,rfl⟩:=hr
 obtain ⟨x,_,rfl⟩:=List.mem_map.1 he
 exact hz x
end
theorem Bds.nn {len:Nat} {K:Nat→Nat→Prop} (h:K 0 len):Bds none none len K:=⟨0,len,rfl,rfl,by omega,h⟩
theorem Bds.sn {len:Nat} {a:Int} {K:Nat→Nat→Prop} (h0:0≤a∧a≤len) (h:K a.toNat len):Bds (some a) none len K:=⟨a.toNat,len,⟨h0.1,rfl⟩,rfl,by omega,h⟩
theorem Bds.ns {len:Nat} {b:Int} {K:Nat→Nat→Prop} (h0:0≤b∧b≤len) (h:K 0 b.toNat):Bds none (some b) len K:=⟨0,b.toNat,rfl,⟨h0.1,h0.2,rfl⟩,by omega,h⟩
theorem Bds.ss {len:Nat} {a b:Int} {K:Nat→Nat→Prop} (h0:0≤a∧a≤b∧b≤len) (h:K a.toNat b.toNat):Bds (some a) (some b) len K:=⟨a.toNat,b.toNat,⟨h0.1,rfl⟩,⟨by omega,by omega,rfl⟩,by omega,h⟩
theorem SlS.go {z:Nat} {lo hi:Option Int} {K:List (List AV)→Prop} (hz : ∀ x,(enc x).length=z) (h:Bds lo hi l.length fun a h=>K (((l.take h).drop a).map enc)):SlS z (l.map enc) lo hi K:=by
 refine ⟨by simp [hz],?_⟩
 rw[List.length_map]
 obtain ⟨a,b,h1,h2,h3,h4⟩:=h
 refine ⟨a,b,h1,h2,h3,?_⟩
 show K _
 rw[←List.map_take,←List.map_drop];exact h4
theorem SlS.to {z k:Nat} {K:List (List AV)→Prop} (hz : ∀ x,(enc x).length=z) (hk:k≤l.length) (h:K ((l.take k).map enc)):SlS z (l.map enc) none (some (k:Int)) K :=
 SlS.go hz (Bds.ns (by omega) (by simpa using h))
theorem SlS.off {z k:Nat} {K:List (List AV)→Prop} (hz : ∀ x,(enc x).length=z) (hk:k≤l.length) (h:K ((l.drop k).map enc)):SlS z (l.map enc) (some (k:Int)) none K :=
 SlS.go hz (Bds.sn (by omega) (by simpa using h))
theorem CallP.go {f:Nat} {vs:List AV} {K:AV→Prop} {r:AV} (h:Ev L f vs r) (hk:K r):CallP L f vs K:=⟨r,h,hk⟩
theorem CallP.b {f:Nat} {vs:List AV} {K:AV→Prop} {p:Prop} [Decidable p] (h:Ev L f vs (.bool (decide p))) (h1:p→K (.bool true)) (h2 : ¬ p→K (.bool false)):CallP L f vs K:=by
 refine ⟨_,h,?_⟩;by_cases e:p
 ·rw[decide_eq_true e];exact h1 e
 ·rw[decide_eq_false e];exact h2 e
theorem CallP.B {f:Nat} {vs:List AV} {K:AV→Prop} {b:Bool} (h:Ev L f vs (.bool b)) (h1:b=true→K (.bool true)) (h2:b=false→K (.bool false)):CallP L f vs K:=by
 refine ⟨_,h,?_⟩;cases b
 ·exact h2 rfl
 ·exact h1 rfl
theorem FinP.go {a r:AV} (h:a=r) (hc:Clean r):FinP a r:=⟨h,hc⟩
theorem FinP.b {a r:Bool} (h:a=r):FinP (.bool a) (.bool r):=⟨by rw[h],by simp [Clean]⟩
theorem FinP.dt {p:Prop} [Decidable p] (h:p):FinP (.bool true) (.bool (decide p)):=⟨by simp [h],by simp [Clean]⟩
theorem FinP.df {p:Prop} [Decidable p] (h : ¬ p):FinP (.bool false) (.bool (decide p)):=⟨by simp [h],by simp [Clean]⟩
theorem FinP.i {k:IntKind} {a b:Int} (h:a=b):FinP (.int k a) (.int k b):=⟨by rw[h],by simp [Clean]⟩
theorem cleanLL_map (h : ∀ x,CleanL (enc x)) : ∀ l:List α,CleanLL (l.map enc)
 | []=>by simp [CleanLL]
 | x::r=>by rw[List.map_cons,CleanLL];exact ⟨h x,cleanLL_map h r⟩
end
theorem AKM.loop1 {α:Type} {L:Lib} {k:List It} {cd:ACode} {tm:Tm} {M:Mem} {Q:Tm→Mem→Prop} (m:α→Nat) (P:α→Prop) (vs:α→Tm) (Ms:α→Mem) (ts:List Nat) (τ:List (Nat × Nat)) (a:α)
  (he:EqX τ tm M (vs a++tdel ts tm) (Ms a++M)) (hp:P a)
  (step : ∀ a,P a→(∀ a',m a'<m a→P a'→AKM L (.lp cd::k) (vs a'++tdel ts tm) (Ms a'++M) Q)→AKM L (.code cd :: .lp cd::k) (vs a++tdel ts tm) (Ms a++M) Q):AKM L (.lp cd::k) tm M Q :=
 AKM.loop (α:=α) (fun x=>m x) (fun x=>P x) (fun x=>vs x) (fun x=>Ms x) ts τ a he hp fun a h ih=>step a h fun a' h1 h2=>ih a' h1 h2
theorem AKM.loop2 {α β:Type} {L:Lib} {k:List It} {cd:ACode} {tm:Tm} {M:Mem} {Q:Tm→Mem→Prop} (m:α→β→Nat) (P:α→β→Prop) (vs:α→β→Tm) (Ms:α→β→Mem) (ts:List Nat) (τ:List (Nat × Nat)) (a:α) (b:β)
  (he:EqX τ tm M (vs a b++tdel ts tm) (Ms a b++M)) (hp:P a b)
  (step : ∀ a b,P a b→(∀ a' b',m a' b'<m a b→P a' b'→AKM L (.lp cd::k) (vs a' b'++tdel ts tm) (Ms a' b'++M) Q)→AKM L (.code cd :: .lp cd::k) (vs a b++tdel ts tm) (Ms a b++M) Q):AKM L (.lp cd::k) tm M Q :=
 AKM.loop (α:=α × β) (fun x=>m x.1 x.2) (fun x=>P x.1 x.2) (fun x=>vs x.1 x.2) (fun x=>Ms x.1 x.2) ts τ (a,b) he hp fun ⟨a,b⟩ h ih=>step a b h fun a' b' h1 h2=>ih (a',b') h1 h2
theorem AKM.loop3 {α β γ:Type} {L:Lib} {k:List It} {cd:ACode} {tm:Tm} {M:Mem} {Q:Tm→Mem→Prop} (m:α→β→γ→Nat) (P:α→β→γ→Prop) (vs:α→β→γ→Tm) (Ms:α→β→γ→Mem) (ts:List Nat) (τ:List (Nat × Nat)) (a:α) (b:β) (c:γ)
  (he:EqX τ tm M (vs a b c++tdel ts tm) (Ms a b c++M)) (hp:P a b c)
  (step : ∀ a b c,P a b c→(∀ a' b' c',m a' b' c'<m a b c→P a' b' c'→AKM L (.lp cd::k) (vs a' b' c'++tdel ts tm) (Ms a' b' c'++M) Q)→AKM L (.code cd :: .lp cd::k) (vs a b c++tdel ts tm) (Ms a b c++M) Q):AKM L (.lp cd::k) tm M Q :=
 AKM.loop (α:=α × β × γ) (fun x=>m x.1 x.2.1 x.2.2) (fun x=>P x.1 x.2.1 x.2.2) (fun x=>vs x.1 x.2.1 x.2.2) (fun x=>Ms x.1 x.2.1 x.2.2) ts τ (a,b,c) he hp fun ⟨a,b,c⟩ h ih=>step a b c h fun a' b' c' h1 h2=>ih (a',b',c') h1 h2
theorem AKM.loop4 {α β γ δ:Type} {L:Lib} {k:List It} {cd:ACode} {tm:Tm} {M:Mem} {Q:Tm→Mem→Prop} (m:α→β→γ→δ→Nat) (P:α→β→γ→δ→Prop) (vs:α→β→γ→δ→Tm) (Ms:α→β→γ→δ→Mem) (ts:List Nat) (τ:List (Nat × Nat)) (a:α) (b:β) (c:γ) (d:δ)
  (he:EqX τ tm M (vs a b c d++tdel ts tm) (Ms a b c d++M)) (hp:P a b c d)
  (step : ∀ a b c d,P a b c d→(∀ a' b' c' d',m a' b' c' d'<m a b c d→P a' b' c' d'→AKM L (.lp cd::k) (vs a' b' c' d'++tdel ts tm) (Ms a' b' c' d'++M) Q)→AKM L (.code cd :: .lp cd::k) (vs a b c d++tdel ts tm) (Ms a b c d++M) Q):AKM L (.lp cd::k) tm M Q :=
 AKM.loop (α:=α × β × γ × δ) (fun x=>m x.1 x.2.1 x.2.2.1 x.2.2.2) (fun x=>P x.1 x.2.1 x.2.2.1 x.2.2.2) (fun x=>vs x.1 x.2.1 x.2.2.1 x.2.2.2) (fun x=>Ms x.1 x.2.1 x.2.2.1 x.2.2.2) ts τ (a,b,c,d) he hp fun ⟨a,b,c,d⟩ h ih=>step a b c d h fun a' b' c' d' h1 h2=>ih (a',b',c',d') h1 h2
theorem AKM.loop5 {α β γ δ ε:Type} {L:Lib} {k:List It} {cd:ACode} {tm:Tm} {M:Mem} {Q:Tm→Mem→Prop} (m:α→β→γ→δ→ε→Nat) (P:α→β→γ→δ→ε→Prop) (vs:α→β→γ→δ→ε→Tm) (Ms:α→β→γ→δ→ε→Mem) (ts:List Nat) (τ:List (Nat × Nat)) (a:α) (b:β) (c:γ) (d:δ) (e:ε)
  (he:EqX τ tm M (vs a b c d e++tdel ts tm) (Ms a b c d e++M)) (hp:P a b c d e)
  (step : ∀ a b c d e,P a b c d e→(∀ a' b' c' d' e',m a' b' c' d' e'<m a b c d e→P a' b' c' d' e'→AKM L (.lp cd::k) (vs a' b' c' d' e'++tdel ts tm) (Ms a' b' c' d' e'++M) Q)→AKM L (.code cd :: .lp cd::k) (vs a b c d e++tdel ts tm) (Ms a b c d e++M) Q):AKM L (.lp cd::k) tm M Q :=
 AKM.loop (α:=α × β × γ × δ × ε) (fun x=>m x.1 x.2.1 x.2.2.1 x.2.2.2.1 x.2.2.2.2) (fun x=>P x.1 x.2.1 x.2.2.1 x.2.2.2.1 x.2.2.2.2) (fun x=>vs x.1 x.2.1 x.2.2.1 x.2.2.2.1 x.2.2.2.2) (fun x=>Ms x.1 x.2.1 x.2.2.1 x.2.2.2.1 x.2.2.2.2) ts τ (a,b,c,d,e) he hp fun ⟨a,b,c,d,e⟩ h ih=>step a b c d e h fun a' b' c' d' e' h1 h2=>ih (a',b',c',d',e') h1 h2
theorem AKM.loop6 {α β γ δ ε ζ:Type} {L:Lib} {k:List It} {cd:ACode} {tm:Tm} {M:Mem} {Q:Tm→Mem→Prop} (m:α→β→γ→δ→ε→ζ→Nat) (P:α→β→γ→δ→ε→ζ→Prop) (vs:α→β→γ→δ→ε→ζ→Tm) (Ms:α→β→γ→δ→ε→ζ→Mem) (ts:List Nat) (τ:List (Nat × Nat)) (a:α) (b:β) (c:γ) (d:δ) (e:ε) (f:ζ)
  (he:EqX τ tm M (vs a b c d e f++tdel ts tm) (Ms a b c d e f++M)) (hp:P a b c d e f)
  (step : ∀ a b c d e f,P a b c d e f→(∀ a' b' c' d' e' f',m a' b' c' d' e' f'<m a b c d e f→P a' b' c' d' e' f'→AKM L (.lp cd::k) (vs a' b' c' d' e' f'++tdel ts tm) (Ms a' b' c' d' e' f'++M) Q)→AKM L (.code cd :: .lp cd::k) (vs a b c d e f++tdel ts tm) (Ms a b c d e f++M) Q):AKM L (.lp cd::k) tm M Q :=
 AKM.loop (α:=α × β × γ × δ × ε × ζ) (fun x=>m x.1 x.2.1 x.2.2.1 x.2.2.2.1 x.2.2.2.2.1 x.2.2.2.2.2) (fun x=>P x.1 x.2.1 x.2.2.1 x.2.2.2.1 x.2.2.2.2.1 x.2.2.2.2.2) (fun x=>vs x.1 x.2.1 x.2.2.1 x.2.2.2.1 x.2.2.2.2.1 x.2.2.2.2.2) (fun x=>Ms x.1 x.2.1 x.2.2.1 x.2.2.2.1 x.2.2.2.2.1 x.2.2.2.2.2) ts τ (a,b,c,d,e,f) he hp fun ⟨a,b,c,d,e,f⟩ h ih=>step a b c d e f h fun a' b' c' d' e' f' h1 h2=>ih (a',b',c',d',e',f') h1 h2
theorem AKM.x {L:Lib} {Q:Tm→Mem→Prop} {c:ACode} {k:List It} {tm:Tm} {M:Mem} (h:fT (cnm 0 tm) fun tm=>fM (mcan M) fun M=>XK L Q 500 (.code c::k) tm M):AKM L (.code c::k) tm M Q:=by
 rw[fT_eq,fM_eq]at h
 exact AKM.can (XK_sound h)
theorem AKM.y {L:Lib} {Q:Tm→Mem→Prop} {i:Nat} {k:List It} {tm:Tm} {M:Mem} (h:XK L Q 500 (.blk i::k) tm M):AKM L (.blk i::k) tm M Q:=XK_sound h
end Go.Eng

namespace Go.Eng
variable {L:Lib}
def oLt (N:Nat):Opd→Bool
 | .t n=>Nat.blt n N
 | .c _=>true
def opLt (N:Nat):AOp→Bool
 | .mov x=>oLt N x
 | .vrow _ _=>true
 | .pick c a b=>oLt N c&&(oLt N a&&oLt N b)
 | .bin _ x y=>oLt N x&&oLt N y
 | .beq _ x y=>oLt N x&&oLt N y
 | .un _ x=>oLt N x
 | .conv _ x=>oLt N x
 | .box _ x=>oLt N x
 | .alloc _ _=>true
 | .build _ ps=>ps.all fun p=>oLt N p.2.2
 | .bslice _ _ ps=>ps.all (oLt N)
 | .fadr x _=>oLt N x
 | .fld x _ _ _=>oLt N x
 | .iadr _ _ x i=>oLt N x&&oLt N i
 | .idx _ _ _ x i=>oLt N x&&oLt N i
 | .ld _ _ x=>oLt N x
 | .st _ x v=>oLt N x&&oLt N v
 | .mk _ _ _ _ l c=>oLt N l&&oLt N c
 | .slc _ x lo hi=>oLt N x&&((lo.all (oLt N))&&(hi.all (oLt N)))
 | .ext x _=>oLt N x
 | .len x=>oLt N x
 | .mm _ xs=>xs.all (oLt N)
 | .app _ _ _ x y=>oLt N x&&oLt N y
 | .cpy _ x y=>oLt N x&&oLt N y
 | .call _ xs=>xs.all (oLt N)
 | .calli _ xs=>xs.all (oLt N)
 | .isn _ x=>oLt N x
 | .sidx _ x=>oLt N x
 | .bad=>true
 | .nck x=>oLt N x
 | .capn x=>oLt N x
 | .apz _ _ _ x y=>oLt N x&&oLt N y
 | .apd _ _ _ x y=>oLt N x&&oLt N y
 | .mkf _ _ xs=>xs.all (oLt N)
 | .callv x xs=>oLt N x&&xs.all (oLt N)
 | .callq _ xs=>xs.all (oLt N)
 | .callr _ _ xs=>xs.all (oLt N)
 | .cals _ _ xs=>xs.all (oLt N)
 | .aeq _ _ x y=>oLt N x&&oLt N y
 | .sto _ _ x v=>oLt N x&&oLt N v
 | .appo _ _ _ x y=>oLt N x&&oLt N y
def aiLt (N:Nat) (a:AI):Bool:=(a.dst.all fun d=>Nat.blt d N)&&((a.guard.all fun g=>Nat.blt g.1 N)&&opLt N a.op)
def cLt (N:Nat):ACode→Bool
 | .skip=>true
 | .ops l _=>l.all (aiLt N)
 | .dr c ts _=>cLt N c&&ts.all fun t=>Nat.blt t N
 | .scope c=>cLt N c
 | .seq a b=>cLt N a&&cLt N b
 | .cond c a b=>oLt N c&&(cLt N a&&cLt N b)
 | .block _ c=>cLt N c
 | .loop c=>cLt N c
 | .exit _=>true
 | .ret=>true
def iLt (N:Nat):It→Bool
 | .code c=>cLt N c
 | .drp ts _=>ts.all fun t=>Nat.blt t N
 | .blk _=>true
 | .lp c=>cLt N c
structure Gh (N:Nat) (G T T':Tm):Prop where
 lo : ∀ j,j<N→tget T' j=tget T j
 hi : ∀ j,N≤j→tget T' j=tget G j
variable {N:Nat} {G:Tm}
theorem blt_iff {a b:Nat}:Nat.blt a b=true↔a<b:=by simp [Nat.blt];omega
theorem Gh.ev {st:St} {T':Tm} {o:Own} (h:Gh N G st.tm T') {x:Opd} (hx:oLt N x=true):St.ev ⟨T',o⟩ x=st.ev x:=by
 cases x with
 | t n=>exact h.lo n (blt_iff.1 hx)
 | c v=>rfl
theorem map_ev {f g:Opd→AV} {xs:List Opd} (h : ∀ x,oLt N x=true→f x=g x) (hx:xs.all (oLt N)=true):xs.map f=xs.map g:=by
 apply List.map_congr_left
 intro x hm
 exact h x (List.all_eq_true.1 hx x hm)
theorem eff_gh {C:Cl} {ban:List Nat} {ρ ρ':Opd→AV} {own:Own} (h : ∀ x,oLt N x=true→ρ' x=ρ x) : ∀ (op:AOp),opLt N op=true→eff C ban ρ' own op=eff C ban ρ own op:=by
 intro op hop
 cases op
 case build zero ps =>
  have:(ps.map fun p=>(p.1,p.2.1,ρ' p.2.2))=ps.map fun p=>(p.1,p.2.1,ρ p.2.2):=by
   apply List.map_congr_left
   intro p hm
   rw[h _ (List.all_eq_true.1 hop p hm)]
  simp only[eff,this]
 case bslice s esz ps =>
  have:ps.mapM (fun x=>cellsOf (ρ' x))=ps.mapM (fun x=>cellsOf (ρ x)):=by
   have hps:ps.all (oLt N)=true:=hop
   clear hop
   induction ps with
   | nil=>rfl
   | cons p r ih =>
    simp only[List.all_cons,Bool.and_eq_true]at hps
    simp only[List.mapM_cons,h _ hps.1,ih hps.2]
  simp only[eff,this]
 case mm m xs=>simp only[eff,map_ev h hop]
 case call f xs=>simp only[eff,map_ev h hop]
 case calli f xs=>simp only[eff,map_ev h hop]
 case mkf p f xs =>
  have:xs.mapM (fun x=>oneA (ρ' x))=xs.mapM (fun x=>oneA (ρ x)):=by
   have hps:xs.all (oLt N)=true:=hop
   clear hop
   induction xs with
   | nil=>rfl
   | cons p r ih =>
    simp only[List.all_cons,Bool.and_eq_true]at hps
    simp only[List.mapM_cons,h _ hps.1,ih hps.2]
  simp only[eff,this]
 case callq f xs=>simp only[eff,map_ev h hop]
 case callr s f xs=>simp only[eff,map_ev h hop]
 case cals s f xs=>simp only[eff,map_ev h hop]
 case callv x xs =>
  simp only[opLt,Bool.and_eq_true]at hop
  simp only[eff,map_ev h hop.2,h _ hop.1]
 case slc esz x lo hi =>
  simp only[opLt,Bool.and_eq_true]at hop
  obtain ⟨h1,h2,h3⟩:=hop
  cases lo<;>cases hi<;>simp only[Option.all_some,Option.all_none]at h2 h3<;>simp only[eff,h _ h1,h _,h2,h3]
 all_goals (simp only[opLt,Bool.and_eq_true]at hop;simp only[eff,h _,hop])
theorem Gh.dst {T T':Tm} (h:Gh N G T T') {d:Nat} (hd:d<N) (v:AV):Gh N G (tput T d v) (tput T' d v):=by
 constructor
 ·intro j hj
  rw[tget_tput,tget_tput,h.lo j hj]
 ·intro j hj
  rw[tget_tput,h.hi j hj,if_neg (by omega)]
theorem Gh.dstO {T T':Tm} {o:Own} (h:Gh N G T T') {d:Option Nat} (hd:(d.all fun d=>Nat.blt d N)=true) (v:AV):((⟨T',o⟩:St).dst d v).own=((⟨T,o⟩:St).dst d v).own∧Gh N G ((⟨T,o⟩:St).dst d v).tm ((⟨T',o⟩:St).dst d v).tm:=by
 cases d with
 | none=>exact ⟨rfl,h⟩
 | some d=>exact ⟨rfl,h.dst (blt_iff.1 hd) v⟩
theorem stepI_gh {C:Cl} {a:AI} (ha:aiLt N a=true) {T T':Tm} {o:Own} (h:Gh N G T T') {s':St} (hs:stepI C a ⟨T',o⟩=some s') : ∃ s,stepI C a ⟨T,o⟩=some s∧s'.own=s.own∧Gh N G s.tm s'.tm:=by
 simp only[aiLt,Bool.and_eq_true]at ha
 obtain ⟨h1,h2,h3⟩:=ha
 have hg:guardA ⟨T',o⟩ a.guard=guardA ⟨T,o⟩ a.guard:=by
  cases hgg:a.guard with
  | none=>rfl
  | some g =>
   rw[hgg]at h2
   simp only[guardA,h.lo _ (blt_iff.1 h2)]
 have he:=eff_gh (C:=C) (ban:=a.ban) (own:=o) (ρ:=St.ev ⟨T,o⟩) (ρ':=St.ev ⟨T',o⟩) (fun x hx=>Gh.ev (st:=⟨T,o⟩) h hx) a.op h3
 unfold stepI at hs ⊢
 rw[hg,he]at hs
 cases hgd:guardA ⟨T,o⟩ a.guard with
 | none=>rw[hgd]at hs;cases hs
 | some b =>
  rw[hgd]at hs
  cases b with
  | false =>
   simp only[Option.some.injEq]at hs ⊢
   subst hs
   exact ⟨_,rfl,h.dstO h1 _⟩
  | true =>
   simp only at hs ⊢
   cases hee:eff C a.ban (St.ev ⟨T,o⟩) o a.op with
   | none=>rw[hee]at hs;cases hs
   | some e =>
    rw[hee]at hs
    simp only[Option.map_some,Option.some.injEq]at hs ⊢
    subst hs
    refine ⟨_,rfl,?_⟩
    cases e with
    | val v=>exact h.dstO h1 v
    | new s b v=>exact ⟨rfl,(h.dstO (o:=o) h1 _).2⟩
    | vir s b v=>exact ⟨rfl,(h.dstO (o:=o) h1 _).2⟩
    | tur v o'=>exact ⟨rfl,(h.dstO (o:=o) h1 _).2⟩
    | upd s x=>exact ⟨rfl,(h.dstO (o:=o) h1 _).2⟩
    | upn s x v=>exact ⟨rfl,(h.dstO (o:=o) h1 _).2⟩
theorem stepL_gh {C:Cl} : ∀ {l:List AI},l.all (aiLt N)=true → ∀ {T T':Tm} {o:Own},Gh N G T T' → ∀ {s':St},stepL C l ⟨T',o⟩=some s' → ∃ s,stepL C l ⟨T,o⟩=some s∧s'.own=s.own∧Gh N G s.tm s'.tm
 | [],_,T,T',o,h,s',hs=>by
  simp only[stepL,Option.some.injEq]at hs
  subst hs
  exact ⟨_,rfl,rfl,h⟩
 | a::l,ha,T,T',o,h,s',hs=>by
  simp only[List.all_cons,Bool.and_eq_true]at ha
  simp only[stepL]at hs
  cases h1:stepI C a ⟨T',o⟩ with
  | none=>rw[h1]at hs;cases hs
  | some s1 =>
   rw[h1]at hs
   obtain ⟨s2,e1,e2,e3⟩:=stepI_gh ha.1 h h1
   obtain ⟨T1,o1⟩:=s1
   obtain ⟨T2,o2⟩:=s2
   simp only at e2 e3
   subst e2
   obtain ⟨s3,f1,f2,f3⟩:=stepL_gh ha.2 e3 hs
   exact ⟨s3,by simp only[stepL,e1,f1],f2,f3⟩
theorem exitA_lt {id:Nat} : ∀ {k k':List It},k.all (iLt N)=true→exitA id k=some k'→k'.all (iLt N)=true
 | [],_,_,h=>by simp [exitA]at h
 | it::k,k',hk,h=>by
  simp only[List.all_cons,Bool.and_eq_true]at hk
  cases it with
  | blk i =>
   simp only[exitA]at h
   split at h
   ·cases h;exact hk.2
   ·exact exitA_lt hk.2 h
  | code c=>simp only[exitA]at h;exact exitA_lt hk.2 h
  | drp a b=>simp only[exitA]at h;exact exitA_lt hk.2 h
  | lp c=>simp only[exitA]at h;exact exitA_lt hk.2 h
theorem run_gh {C:Cl} : ∀ (n:Nat) {k:List It},k.all (iLt N)=true → ∀ {T T':Tm} {o:Own},Gh N G T T' → ∀ {s':St},run C n k ⟨T',o⟩=some s' → ∃ s,run C n k ⟨T,o⟩=some s∧s'.own=s.own∧Gh N G s.tm s'.tm
 | 0,k,_,T,T',o,_,s',hs=>by simp [run]at hs
 | n+1,[],_,T,T',o,h,s',hs=>by
  simp only[run,Option.some.injEq]at hs ⊢
  subst hs
  exact ⟨_,rfl,rfl,h⟩
 | n+1,.blk _::k,hk,T,T',o,h,s',hs=>by
  simp only[List.all_cons,Bool.and_eq_true]at hk
  simp only[run]at hs ⊢
  exact run_gh n hk.2 h hs
 | n+1,.drp ts ss::k,hk,T,T',o,h,s',hs=>by
  simp only[List.all_cons,Bool.and_eq_true]at hk
  simp only[run]at hs ⊢
  refine run_gh n hk.2 ⟨fun j hj => ?_,fun j hj => ?_⟩ hs
  ·rw[tget_tdrop,tget_tdrop,h.lo j hj]
  ·rw[tget_tdrop,h.hi j hj,if_neg]
   intro hc
   have:=List.all_eq_true.1 hk.1 j (by simpa using hc)
   have:=blt_iff.1 this
   omega
 | n+1,.lp c::k,hk,T,T',o,h,s',hs=>by
  simp only[run]at hs ⊢
  have hk':=hk
  simp only[List.all_cons,Bool.and_eq_true]at hk
  exact run_gh n (by simp only[List.all_cons,Bool.and_eq_true];exact ⟨hk.1,hk.1,hk.2⟩) h hs
 | n+1,.code c::k,hk,T,T',o,h,s',hs=>by
  simp only[List.all_cons,Bool.and_eq_true]at hk
  obtain ⟨hc,hk⟩:=hk
  cases c with
  | skip=>simp only[run]at hs ⊢;exact run_gh n hk h hs
  | ops l d =>
   simp only[run]at hs ⊢
   cases h1:stepL C l ⟨T',o⟩ with
   | none=>rw[h1]at hs;cases hs
   | some s1 =>
    rw[h1]at hs
    obtain ⟨s2,e1,e2,e3⟩:=stepL_gh (show l.all (aiLt N)=true from hc) h h1
    obtain ⟨T1,o1⟩:=s1
    obtain ⟨T2,o2⟩:=s2
    simp only at e2 e3
    subst e2
    rw[e1]
    exact run_gh n hk e3 hs
  | dr c ts ss =>
   simp only[run]at hs ⊢
   simp only[iLt,cLt,Bool.and_eq_true]at hc
   exact run_gh n (by simp only[List.all_cons,Bool.and_eq_true];exact ⟨hc.1,hc.2,hk⟩) h hs
  | scope c =>
   simp only[run]at hs ⊢
   exact run_gh n (by simp only[List.all_cons,Bool.and_eq_true];exact ⟨hc,hk⟩) h hs
  | seq a b =>
   simp only[run]at hs ⊢
   simp only[iLt,cLt,Bool.and_eq_true]at hc
   exact run_gh n (by simp only[List.all_cons,Bool.and_eq_true];exact ⟨hc.1,hc.2,hk⟩) h hs
  | cond x a b =>
   simp only[iLt,cLt,Bool.and_eq_true]at hc
   simp only[run,Gh.ev (st:=⟨T,o⟩) h hc.1]at hs ⊢
   cases hx:St.ev ⟨T,o⟩ x<;>rw[hx]at hs<;>try (simp at hs;done)
   rename_i q
   cases q
   ·exact run_gh n (by simp only[List.all_cons,Bool.and_eq_true];exact ⟨hc.2.2,hk⟩) h hs
   ·exact run_gh n (by simp only[List.all_cons,Bool.and_eq_true];exact ⟨hc.2.1,hk⟩) h hs
  | block id c =>
   simp only[run]at hs ⊢
   exact run_gh n (by simp only[List.all_cons,Bool.and_eq_true];exact ⟨hc,rfl,hk⟩) h hs
  | loop c =>
   simp only[run]at hs ⊢
   exact run_gh n (by simp only[List.all_cons,Bool.and_eq_true];exact ⟨hc,hc,hk⟩) h hs
  | exit id =>
   simp only[run]at hs ⊢
   cases he:exitA id k with
   | none=>rw[he]at hs;cases hs
   | some k' =>
    rw[he]at hs
    exact run_gh n (exitA_lt hk he) h hs
  | ret =>
   simp only[run,Option.some.injEq]at hs ⊢
   subst hs
   exact ⟨_,rfl,rfl,h⟩
def shT (N:Nat):Tm→Tm
 | []=>[]
 | (i,v)::r=>(N+i,v)::shT N r
def gh (N:Nat):Tm→Tm
 | []=>[]
 | (i,v)::r=>bif Nat.ble N i then (Nat.sub i N,v)::gh N r else gh N r
theorem tget_shT (N j:Nat) : ∀ T:Tm,tget (shT N T) (N+j)=tget T j
 | []=>rfl
 | (i,v)::r=>by
  have ih:=tget_shT N j r
  simp only[shT,tget,ih]
  by_cases h:j=i
  ·simp [h]
  ·rw[if_neg h,if_neg (by omega)]
theorem tget_shT_lt {N j:Nat} (hj:j<N) : ∀ T:Tm,tget (shT N T) j = .any
 | []=>rfl
 | (i,v)::r=>by
  simp only[shT,tget,tget_shT_lt hj r]
  rw[if_neg (by omega)]
theorem tget_gh (N j:Nat) : ∀ T:Tm,tget (gh N T) j=tget T (N+j)
 | []=>rfl
 | (i,v)::r=>by
  have ih:=tget_gh N j r
  simp only[gh]
  cases h:Nat.ble N i
  ·have h1 : ¬ N≤i:=fun e=>by rw[Nat.ble_eq_true_of_le e]at h;cases h
   simp only[cond,tget,ih]
   rw[if_neg (by omega)]
  ·have h1:=Nat.le_of_ble_eq_true h
   simp only[cond,tget,ih]
   by_cases h2:j=i-N
   ·rw[if_pos (show j=Nat.sub i N from h2),if_pos (by omega)]
   ·rw[if_neg (show ¬ j=Nat.sub i N from h2),if_neg (by omega)]
def mapT (f:AV→AV):Tm→Tm
 | []=>[]
 | (i,v)::r=>(i,f v)::mapT f r
theorem tget_mapT {f:AV→AV} (hf:f .any = .any) (j:Nat) : ∀ T:Tm,tget (mapT f T) j=f (tget T j)
 | []=>hf.symm
 | (i,v)::r=>by
  simp only[mapT,tget,tget_mapT hf j r]
  by_cases h:j=i<;>simp [h]
theorem initTm_map (f:AV→AV) : ∀ (i:Nat) (vs:List AV),initTm i (vs.map f)=mapT f (initTm i vs)
 | _,[]=>rfl
 | i,v::r=>by simp only[List.map_cons,initTm,mapT,initTm_map f (i+1) r]
theorem tget_append (j:Nat) (b:Tm) : ∀ a:Tm,((a.any fun p=>p.1 == j)=true∧tget (a++b) j=tget a j)∨((a.any fun p=>p.1 == j)=false∧tget (a++b) j=tget b j)
 | []=>Or.inr ⟨rfl,rfl⟩
 | (i,v)::r=>by
  by_cases h:j=i
  ·subst h
   exact Or.inl (by simp [tget])
  ·have h' : ¬ i=j:=fun e=>h e.symm
   rcases tget_append j b r with ⟨h1,h2⟩|⟨h1,h2⟩
   ·exact Or.inl ⟨by rw[List.any_cons,h1,Bool.or_true],by simp only[List.cons_append,tget,if_neg h,h2]⟩
   ·exact Or.inr ⟨by rw[List.any_cons,h1,Bool.or_false];simpa using h',by simp only[List.cons_append,tget,if_neg h,h2]⟩
theorem initTm_any (j:Nat) : ∀ (i:Nat) (vs:List AV),((initTm i vs).any fun p=>p.1 == j)=true→j<i+vs.length
 | _,[],h=>by simp [initTm]at h
 | i,v::r,h=>by
  simp only[initTm,List.any_cons,Bool.or_eq_true,beq_iff_eq]at h
  rcases h with h|h
  ·simp;omega
  ·have:=initTm_any j (i+1) r h
   simp;omega
theorem tget_initTm_hi (j:Nat) : ∀ (i:Nat) (vs:List AV),((initTm i vs).any fun p=>p.1 == j)=false→tget (initTm i vs) j = .any
 | _,[],_=>rfl
 | i,v::r,h=>by
  simp only[initTm,List.any_cons,Bool.or_eq_false_iff,beq_eq_false_iff_ne]at h
  simp only[initTm,tget]
  rw[if_neg fun e=>h.1 e.symm,tget_initTm_hi j (i+1) r h.2]
theorem st3_any (σ:Stp):st3 σ .any = .any:=rfl
def resI (tm:Tm):List ARes→Option (List AV)
 | []=>some []
 | .tmp t::r=>match resTmp (tg tm t),resI tm r with
  | some v,some vs=>some (v::vs)
  | _,_=>none
 | .cell _ _ _::_=>none
def resLt (N:Nat):List ARes→Bool
 | []=>true
 | .tmp t::r=>Nat.blt t N&&resLt N r
 | .cell _ _ _::_=>false
def RetI (N:Nat) (fn:AFn) (tm:Tm) (K:AV→Mem→Prop) (tm':Tm) (M':Mem):Prop:=gh N tm'=tm ∧ ∃ rs,resI tm' fn.res=some rs∧K (resVal rs) M'
theorem resTmp_st {σ:Stp} {v u:AV} (h:resTmp v=some u):u=v∧st3 σ v=st2 σ v∧resTmp (st3 σ v)=some (st3 σ v):=by
 cases v<;>simp [resTmp]at h<;>subst h<;>exact ⟨rfl,rfl,rfl⟩
theorem resI_sound {σ:Stp} {tm':Tm} {M:Mem} {s s':St} (hr:RX σ tm' M s') (hlo : ∀ j,j<N→tget s'.tm j=tget s.tm j) : ∀ {res:List ARes} {rs:List AV},resLt N res=true→resI tm' res=some rs→res.mapM (resOf s)=some (rs.map (st2 σ)) ∧ ∀ v∈rs,st3 σ v=st2 σ v
 | [],rs,_,h=>by
  simp only[resI,Option.some.injEq]at h
  subst h
  exact ⟨rfl,by simp⟩
 | .cell _ _ _::_,_,_,h=>by simp [resI]at h
 | .tmp t::r,rs,hl,h=>by
  simp only[resLt,Bool.and_eq_true]at hl
  simp only[resI]at h
  cases h1:resTmp (tg tm' t) with
  | none=>rw[h1]at h;simp at h
  | some v =>
   cases h2:resI tm' r with
   | none=>rw[h1,h2]at h;simp at h
   | some vs =>
    rw[h1,h2]at h
    simp only[Option.some.injEq]at h
    subst h
    obtain ⟨i1,i2⟩:=resI_sound hr hlo hl.2 h2
    obtain ⟨rfl,j2,j3⟩:=resTmp_st (σ:=σ) h1
    have:tget s.tm t=st3 σ (tg tm' t):=by
     rcases hr.tm t with e|e
     ·rw[e]at h1;cases h1
     ·rw[←hlo t (blt_iff.1 hl.1),e]
    refine ⟨?_,?_⟩
    ·rw[j2]at j3 this
     simp only[List.mapM_cons,resOf,this,j3,i1,List.map_cons]
     rfl
    ·intro v hv
     simp only[List.mem_cons]at hv
     rcases hv with rfl|hv
     ·exact j2
     ·exact i2 v hv
theorem resVal_st {σ:Stp} {rs:List AV} (h : ∀ v∈rs,st3 σ v=st2 σ v):resVal (rs.map (st2 σ))=st3 σ (resVal rs):=by
 match rs,h with
 | [],_=>rfl
 | [v],h=>exact (h v (by simp)).symm
 | _::_::_,_=>rfl
theorem CalP.walk {f:Nat} {fn:AFn} {vs:List AV} {tm:Tm} {M:Mem} {K:AV→Mem→Prop} (N:Nat) (hL:L f=some fn) (hp:Nat.beq vs.length fn.pars=true) (hN:(Nat.ble fn.pars N&&(cLt N fn.body&&resLt N fn.res))=true)
  (h:AKM L [.code fn.body] (initTm 0 vs++shT N tm) M (RetI N fn tm K)):CalP L f vs tm M K:=by
 intro σ own hs
 simp only[Bool.and_eq_true]at hN
 obtain ⟨n1,n2,n3⟩:=hN
 have n1:=Nat.le_of_ble_eq_true n1
 have hp:vs.length=fn.pars:=Nat.eq_of_beq_eq_true hp
 have hrx:RX σ (initTm 0 vs++shT N tm) M ⟨mapT (st3 σ) (initTm 0 vs++shT N tm),own⟩:=⟨fun j=>Or.inr (by rw[tg_eq];exact tget_mapT (st3_any σ) j _),hs⟩
 obtain ⟨n,c,s',hr,σ',tm',M',hR,hg,rs,hrs,hk⟩:=h σ _ hrx
 have hgh:Gh N (mapT (st3 σ) (shT N tm)) (initTm 0 (vs.map (st3 σ))) (mapT (st3 σ) (initTm 0 vs++shT N tm)):=by
  constructor
  ·intro j hj
   rw[initTm_map,tget_mapT (st3_any σ),tget_mapT (st3_any σ)]
   rcases tget_append j (shT N tm) (initTm 0 vs) with ⟨_,e⟩|⟨hn,e⟩
   ·rw[e]
   ·rw[e,tget_shT_lt hj,tget_initTm_hi j 0 vs hn]
  ·intro j hj
   rw[tget_mapT (st3_any σ),tget_mapT (st3_any σ)]
   rcases tget_append j (shT N tm) (initTm 0 vs) with ⟨hn,e⟩|⟨_,e⟩
   ·have:=initTm_any j 0 vs hn
    omega
   ·rw[e]
 obtain ⟨s,r1,r2,r3⟩:=run_gh n (by simp [iLt,n2]) hgh hr
 obtain ⟨i1,i2⟩:=resI_sound (s:=s) hR r3.lo n3 hrs
 refine ⟨resVal rs,s.own,σ',M',EvI.intro hL (by simpa using hp) ⟨n,c,s,r1,?_,rfl⟩,?_,?_,hk⟩
 ·rw[i1,Option.map_some,resVal_st i2]
 ·rw[←r2];exact hR.sat
 ·intro j
  have e1:tg tm j=tg tm' (N+j):=by rw[tg_eq,tg_eq,←hg,tget_gh]
  rcases hR.tm (N+j) with e|e
  ·rw[e1,e];rfl
  ·rw[e1,←e,r3.hi (N+j) (by omega),tget_mapT (st3_any σ),tget_shT,←tg_eq,e1]
theorem StR.at {α:Type} {enc:α→List AV} {l:List α} {i:Nat} {vs:List AV} {K:List (List AV)→Prop} (n:Nat) (e:α) (hn:i=n) (he:vs=enc e) (hz : ∀ x,(enc x).length=vs.length) (hi:n<l.length) (h:K ((l.set n e).map enc)):StR (l.map enc) i 0 vs K:=by
 subst hn
 exact StR.go e he hz hi h
theorem Bds.up {x:Int} {len:Nat} {K:Nat→Nat→Prop} (h:Nat) (hx:x=h) (hl:h≤len) (hk:K 0 h):Bds none (some x) len K:=⟨0,h,rfl,⟨by omega,by omega,by omega⟩,by omega,hk⟩
theorem Bds.dn {x:Int} {len:Nat} {K:Nat→Nat→Prop} (a:Nat) (hx:x=a) (hl:a≤len) (hk:K a len):Bds (some x) none len K:=⟨a,len,⟨by omega,by omega⟩,rfl,by omega,hk⟩
end Go.Eng

namespace Go.Eng
abbrev BB:Nat:=4294967296
@[irreducible] def w64s (a b : Nat) : Nat := (a + 18446744073709551616 - b) % 18446744073709551616
theorem w64s_def (a b:Nat):w64s a b=(a+18446744073709551616-b)%18446744073709551616:=by unfold w64s;rfl
def val:List Nat→Nat
 | []=>0
 | d::l=>d+4294967296*val l
def Dig (l:List Nat):Prop := ∀ d∈l,d<4294967296
def dg (n:Nat):List Nat:=if h:n=0 then [] else n%4294967296::dg (n/4294967296)
termination_by n
decreasing_by omega
theorem dg_zero:dg 0=[]:=by rw[dg];simp
theorem dg_pos {n:Nat} (h:n≠0):dg n=n%4294967296::dg (n/4294967296):=by rw[dg];simp [h]
theorem val_nil:val []=0:=rfl
theorem val_cons (d:Nat) (l:List Nat):val (d::l)=d+4294967296*val l:=rfl
theorem val_dg (n:Nat):val (dg n)=n:=by
 induction n using Nat.strongRecOn with
 | ind n ih =>
  by_cases h:n=0
  ·subst h;rw[dg_zero];rfl
  ·rw[dg_pos h,val_cons,ih _ (by omega)]
   omega
theorem dig_dg (n:Nat):Dig (dg n):=by
 induction n using Nat.strongRecOn with
 | ind n ih =>
  by_cases h:n=0
  ·subst h;rw[dg_zero];intro d hd;cases hd
  ·rw[dg_pos h]
   intro d hd
   rcases List.mem_cons.1 hd with rfl|hd
   ·omega
   ·exact ih _ (by omega) d hd
theorem Dig.tail {d:Nat} {l:List Nat} (h:Dig (d::l)):Dig l:=fun x hx=>h x (List.mem_cons_of_mem _ hx)
theorem Dig.head {d:Nat} {l:List Nat} (h:Dig (d::l)):d<4294967296:=h d List.mem_cons_self
theorem Dig.at {l:List Nat} (h:Dig l) {i d:Nat} (hd:l[i]? = some d):d<4294967296:=h d (zM hd)
theorem Dig.take {l:List Nat} (h:Dig l) (n:Nat):Dig (l.take n):=fun x hx=>h x (List.mem_of_mem_take hx)
theorem Dig.drop {l:List Nat} (h:Dig l) (n:Nat):Dig (l.drop n):=fun x hx=>h x (List.mem_of_mem_drop hx)
theorem dig_nil:Dig []:=fun _ h=>by cases h
theorem Dig.append {a b:List Nat} (h:Dig a) (h':Dig b):Dig (a++b):=fun x hx=>(List.mem_append.1 hx).elim (h x) (h' x)
theorem dig_one {d:Nat} (h:d<4294967296):Dig [d]:=fun x hx=>by simp at hx;omega
theorem Dig.set {l:List Nat} (h:Dig l) (i:Nat) {d:Nat} (hd:d<4294967296):Dig (l.set i d):=fun x hx=>by
 rcases List.mem_or_eq_of_mem_set hx with h1|h1
 ·exact h x h1
 ·omega
theorem dig_zeros (n:Nat):Dig (List.replicate n 0):=fun x hx=>by rw[(List.mem_replicate.1 hx).2];omega
theorem val_append (a b:List Nat):val (a++b)=val a+4294967296^a.length*val b:=by
 induction a with
 | nil=>simp [val]
 | cons d l ih=>rw[List.cons_append,val_cons,val_cons,ih,List.length_cons,Nat.pow_succ];grind
theorem val_snoc (l:List Nat) (v:Nat):val (l++[v])=val l+4294967296^l.length*v:=by
 rw[val_append];simp [val]
theorem val_lt {l:List Nat} (h:Dig l):val l<4294967296^l.length:=by
 induction l with
 | nil=>simp [val]
 | cons d l ih =>
  have h1:=ih h.tail
  have h2:=h.head
  rw[val_cons,List.length_cons,Nat.pow_succ]
  omega
theorem val_take_succ {l:List Nat} {i v:Nat} (h:l[i]? = some v):val (l.take (i+1))=val (l.take i)+4294967296^i*v:=by
 have hi:=(zS h).1
 rw[List.take_add_one,h,Option.toList_some,val_snoc,List.length_take,Nat.min_eq_left (by omega)]
theorem val_split (l:List Nat) (i:Nat) (h:i≤l.length):val l=val (l.take i)+4294967296^i*val (l.drop i):=by
 have:=val_append (l.take i) (l.drop i)
 rw[List.take_append_drop,List.length_take,Nat.min_eq_left h]at this
 exact this
theorem val_zeros (n:Nat):val (List.replicate n 0)=0:=by
 induction n with
 | zero=>rfl
 | succ n ih=>rw[List.replicate_succ,val_cons,ih]
theorem dg_of_top {l:List Nat} (h:Dig l) (ht:l=[] ∨ ∃ d,l[l.length-1]? = some d∧d≠0):dg (val l)=l:=by
 induction l with
 | nil=>exact dg_zero
 | cons d l ih =>
  have h1:=h.head
  by_cases hl:l=[]
  ·subst hl
   rcases ht with ht|⟨x,hx,hx0⟩
   ·cases ht
   ·simp at hx
    subst hx
    rw[val_cons,val_nil,dg_pos (by omega),show (d+4294967296*0)/4294967296=0 by omega,dg_zero,show (d+4294967296*0)%4294967296=d by omega]
  ·have ht' : ∃ x,l[l.length-1]? = some x∧x≠0:=by
    rcases ht with ht|⟨x,hx,hx0⟩
    ·cases ht
    ·refine ⟨x,?_,hx0⟩
     have:l.length≠0:=fun e=>hl (List.eq_nil_of_length_eq_zero e)
     rw[List.length_cons,show l.length+1-1=(l.length-1)+1 by omega,List.getElem?_cons_succ]at hx
     exact hx
   have ih':=ih h.tail (Or.inr ht')
   have hpos:val l≠0:=by
    intro e
    rw[e,dg_zero]at ih'
    exact hl ih'.symm
   rw[val_cons,dg_pos (by omega),show (d+4294967296*val l)/4294967296=val l by omega,ih',show (d+4294967296*val l)%4294967296=d by omega]
theorem cut_found {l:List Nat} (h:Dig l) {n:Nat} (hn:n≤l.length) (hz : ∀ i,n≤i→i<l.length→l[i]? = some 0) (ht:n=0 ∨ ∃ d,l[n-1]? = some d∧d≠0):l.take n=dg (val l):=by
 have hv:val l=val (l.take n):=by
  have h0:l.drop n=List.replicate (l.length-n) 0:=by
   apply List.ext_getElem?
   intro i
   rw[List.getElem?_drop,List.getElem?_replicate]
   by_cases hi:n+i<l.length
   ·rw[hz (n+i) (by omega) hi,if_pos (by omega)]
   ·rw[List.getElem?_eq_none (by omega),if_neg (by omega)]
  rw[val_split l n hn,h0,val_zeros];omega
 rw[hv]
 refine (dg_of_top (h.take n) ?_).symm
 rcases ht with rfl|⟨d,hd,hd0⟩
 ·exact Or.inl (by simp)
 ·have hlt:=(zS hd).1
  by_cases hn0:n=0
  ·subst hn0;exact Or.inl (by simp)
  ·refine Or.inr ⟨d,?_,hd0⟩
   rw[List.length_take,Nat.min_eq_left hn,List.getElem?_take,if_pos (by omega)]
   exact hd
theorem dg_len_le {n k:Nat}:(dg n).length≤k↔n<4294967296^k:=by
 induction k generalizing n with
 | zero =>
  by_cases h:n=0
  ·subst h;simp [dg_zero]
  ·rw[dg_pos h];simp;omega
 | succ k ih =>
  by_cases h:n=0
  ·subst h;simp [dg_zero];exact Nat.pos_of_ne_zero (by simp)
  ·rw[dg_pos h,List.length_cons,Nat.succ_le_succ_iff,ih,Nat.pow_succ]
   rw[Nat.div_lt_iff_lt_mul (by omega)]
theorem dg_len_val {l:List Nat} (h:Dig l):(dg (val l)).length≤l.length:=dg_len_le.2 (val_lt h)
theorem dg_top {n:Nat} (h:n≠0) : ∃ d,(dg n)[(dg n).length-1]? = some d∧d≠0:=by
 induction n using Nat.strongRecOn with
 | ind n ih =>
  rw[dg_pos h]
  by_cases h2:n/4294967296=0
  ·rw[h2,dg_zero]
   exact ⟨n%4294967296,by simp,by omega⟩
  ·obtain ⟨d,hd,hd0⟩:=ih _ (by omega) h2
   refine ⟨d,?_,hd0⟩
   have hl:(dg (n/4294967296)).length≠0:=fun e=>by rw[List.eq_nil_of_length_eq_zero e]at hd;simp at hd
   rw[List.length_cons,show (dg (n/4294967296)).length+1-1=(dg (n/4294967296)).length-1+1 by omega,List.getElem?_cons_succ]
   exact hd
theorem dg_eq_nil {n:Nat}:dg n=[]↔n=0:=by
 constructor
 ·intro h
  by_cases h0:n=0
  ·exact h0
  ·rw[dg_pos h0]at h;cases h
 ·rintro rfl;exact dg_zero
theorem dg_inj {a b:Nat} (h:dg a=dg b):a=b:=by rw[←val_dg a,h,val_dg]
theorem dg_len_pos {n:Nat} (h:n≠0):1≤(dg n).length:=by rw[dg_pos h];simp
theorem set_take {o:List Nat} {i v:Nat} (h:i<o.length):(o.set i v).take (i+1)=o.take i++[v]:=by
 rw[List.take_add_one,List.getElem?_set_self h,List.take_set_of_le (Nat.le_refl i)];rfl
theorem val_set_take {o:List Nat} {i v:Nat} (h:i<o.length):val ((o.set i v).take (i+1))=val (o.take i)+4294967296^i*v:=by
 rw[set_take h,val_snoc,List.length_take,Nat.min_eq_left (by omega)]
theorem carry_step (V p t:Nat):V+p*(t%4294967296)+p*4294967296*(t/4294967296)=V+p*t:=by
 have h:=Nat.mod_add_div t 4294967296
 have:p*(t%4294967296)+p*4294967296*(t/4294967296)=p*t:=by
  rw[Nat.mul_assoc,←Nat.mul_add,h]
 omega
theorem val_take_all {l:List Nat} {n:Nat} (h:l.length≤n):val (l.take n)=val l:=by rw[List.take_of_length_le h]
theorem pow_pos' (i:Nat):1≤4294967296^i:=Nat.pos_of_ne_zero (by simp)
theorem val_getD_drop {l:List Nat} {i d:Nat} (h:l[i]? = some d):val (l.drop i)=d+4294967296*val (l.drop (i+1)):=by
 obtain ⟨hi,rfl⟩:=zS h
 rw[List.drop_eq_getElem_cons hi,val_cons]
theorem val_lt_of_drop {a b:List Nat} (ha:Dig a) (hb:Dig b) (hl:a.length=b.length) {i:Nat} {x y:Nat} (hx:a[i]? = some x) (hy:b[i]? = some y) (he:a.drop (i+1)=b.drop (i+1)) (h:x<y):val a<val b:=by
 have hia:=(zS hx).1
 have hib:=(zS hy).1
 rw[val_split a i (by omega),val_split b i (by omega),val_getD_drop hx,val_getD_drop hy,he]
 have h1:=val_lt (ha.take i)
 rw[List.length_take,Nat.min_eq_left (by omega)]at h1
 generalize val (b.drop (i+1))=r
 generalize 4294967296^i=p at *
 have:p*(x+4294967296*r)+p≤p*(y+4294967296*r):=by
  rw[←Nat.mul_succ]
  exact Nat.mul_le_mul_left p (by omega)
 omega
theorem val_set {o:List Nat} {k v old:Nat} (h:o[k]? = some old):val (o.set k v)+4294967296^k*old=val o+4294967296^k*v:=by
 have hk:=(zS h).1
 have h1:val (o.set k v)=val (o.take k)+4294967296^k*(v+4294967296*val (o.drop (k+1))):=by
  rw[val_split (o.set k v) k (by simp;omega),List.take_set_of_le (Nat.le_refl k),val_getD_drop (l:=o.set k v) (d:=v) (by rw[List.getElem?_set_self hk]),List.drop_set_of_lt (by omega)]
 have h2:val o=val (o.take k)+4294967296^k*(old+4294967296*val (o.drop (k+1))):=by
  rw[val_split o k (by omega),val_getD_drop h]
 rw[h1,h2,Nat.mul_add,Nat.mul_add]
 omega
theorem take_dg {l:List Nat} (h:Dig l):l.take (dg (val l)).length=dg (val l):=by
 induction l with
 | nil=>rw[val_nil,dg_zero];rfl
 | cons d l ih =>
  have h1:=h.head
  by_cases h0:val (d::l)=0
  ·rw[h0,dg_zero];rfl
  ·rw[dg_pos h0,val_cons,show (d+4294967296*val l)/4294967296=val l by omega,show (d+4294967296*val l)%4294967296=d by omega,List.length_cons,List.take_succ_cons,ih h.tail]
theorem val_lt_of_len {a b:Nat} (h:(dg a).length<(dg b).length):a<b:=by
 have h1:a<4294967296^(dg a).length:=dg_len_le.1 (Nat.le_refl _)
 have h2 : ¬ b<4294967296^((dg b).length-1):=fun h3=>by have:=dg_len_le.2 h3;omega
 have h3:4294967296^(dg a).length≤4294967296^((dg b).length-1):=Nat.pow_le_pow_right (by omega) (by omega)
 omega
end Go.Eng

namespace Go.Eng
section
variable {K:AV→Prop} {a b:Nat} {k':IntKind}
theorem wrap_u32 (n:Nat):IntKind.u32.wrap (n:Int)=((n%4294967296:Nat):Int):=by rw[IntKind.wrap_u32];omega
theorem wrap_u64 (n:Nat):IntKind.u64.wrap (n:Int)=((n%18446744073709551616:Nat):Int):=by
 simp [IntKind.wrap,IntKind.bits,IntKind.signed]
theorem OpP.nadd (h:a+b≤18446744073709551615) (hk:K (.int .u64 ((a+b:Nat):Int))):OpP .add .u64 (a:Int) .u64 (b:Int) K :=
 ⟨_,by simp only[intBin,if_true];rw[IntWalk.u64_in _ (by omega)],by simpa using hk⟩
theorem OpP.nsub (h:b≤a) (h2:a≤18446744073709551615) (hk:K (.int .u64 ((a-b:Nat):Int))):OpP .sub .u64 (a:Int) .u64 (b:Int) K :=
 ⟨_,by simp only[intBin,if_true];rw[IntWalk.u64_in _ (by omega)],by rw[show (a:Int)-b=((a-b:Nat):Int) by omega];exact hk⟩
theorem OpP.nsubw (h:b≤18446744073709551616) (hk:K (.int .u64 ((w64s a b:Nat):Int))):OpP .sub .u64 (a:Int) .u64 (b:Int) K :=
 OpP.go (v := .int .u64 (IntKind.u64.wrap ((a:Int)-b))) (by simp only[intBin,if_true]) (by
  have e:IntKind.u64.wrap ((a:Int)-b)=((w64s a b:Nat):Int):=by
   rw[w64s_def]
   simp only[IntKind.wrap,IntKind.bits,IntKind.signed]
   simp;omega
  rw[e];exact hk)
theorem OpP.nmul (h:a*b≤18446744073709551615) (hk:K (.int .u64 ((a*b:Nat):Int))):OpP .mul .u64 (a:Int) .u64 (b:Int) K :=
 ⟨_,by simp only[intBin,if_true];rw[←Int.natCast_mul,IntWalk.u64_in _ (by omega)],hk⟩
theorem OpP.nquo (h:0<b) (h2:a≤18446744073709551615) (hk:K (.int .u64 ((a/b:Nat):Int))):OpP .quo .u64 (a:Int) .u64 (b:Int) K:=by
 refine ⟨_,by simp only[intBin];rw[if_pos ⟨trivial,by omega⟩],?_⟩
 rw[IntWalk.u64_quo _ _ ⟨by omega,by omega,by omega⟩,←Int.natCast_ediv]
 exact hk
theorem OpP.nrem (h:0<b) (hk:K (.int .u64 ((a%b:Nat):Int))):OpP .rem .u64 (a:Int) .u64 (b:Int) K:=by
 refine ⟨_,by simp only[intBin];rw[if_pos ⟨trivial,by omega⟩],?_⟩
 rw[IntWalk.rem_in _ _ (by omega),←Int.natCast_emod]
 exact hk
theorem shl_n {k:IntKind} {n:Nat} (hn:n≤k.bits):intBin .shl k (a:Int) k' (n:Int)=some (.int k (k.wrap ((a*2^n:Nat):Int))):=by
 simp only[intBin]
 rw[if_neg (by omega),Int.toNat_natCast,Nat.min_eq_left hn]
 simp
theorem shr_n {k:IntKind} {n:Nat} (hn:n≤k.bits):intBin .shr k (a:Int) k' (n:Int)=some (.int k ((a/2^n:Nat):Int)):=by
 simp only[intBin]
 rw[if_neg (by omega),Int.toNat_natCast,Nat.min_eq_left hn,Int.fdiv_eq_ediv_of_nonneg _ (Int.le_of_lt (Int.pow_pos (by omega)))]
 simp
theorem OpP.nshlv {k:IntKind} {n:Nat} (hn:n≤k.bits) (hk:K (.int k (k.wrap ((a*2^n:Nat):Int)))):OpP .shl k (a:Int) k' (n:Int) K:=⟨_,shl_n hn,hk⟩
theorem OpP.nshrv {k:IntKind} {n:Nat} (hn:n≤k.bits) (hk:K (.int k ((a/2^n:Nat):Int))):OpP .shr k (a:Int) k' (n:Int) K:=⟨_,shr_n hn,hk⟩
theorem OpP.nshl32 (h:a≤4294967295) (hk:K (.int .u64 ((a*4294967296:Nat):Int))):OpP .shl .u64 (a:Int) k' 32 K:=by
 refine OpP.nshlv (n:=32) (by decide) ?_
 rw[wrap_u64,show a*2^32%18446744073709551616=a*4294967296 by omega]
 exact hk
theorem OpP.nshr32 (hk:K (.int .u64 ((a/4294967296:Nat):Int))):OpP .shr .u64 (a:Int) k' 32 K:=OpP.nshrv (n:=32) (by decide) hk
theorem OpP.nshr63 (hk:K (.int .u64 ((a/9223372036854775808:Nat):Int))):OpP .shr .u64 (a:Int) k' 63 K:=OpP.nshrv (n:=63) (by decide) hk
theorem OpP.nshr2 (hk:K (.int .u64 ((a/4:Nat):Int))):OpP .shr .u64 (a:Int) k' 2 K:=OpP.nshrv (n:=2) (by decide) hk
theorem OpP.nshr16 (hk:K (.int .u32 ((a/65536:Nat):Int))):OpP .shr .u32 (a:Int) k' 16 K:=OpP.nshrv (n:=16) (by decide) hk
theorem OpP.nshr8 (hk:K (.int .u32 ((a/256:Nat):Int))):OpP .shr .u32 (a:Int) k' 8 K:=OpP.nshrv (n:=8) (by decide) hk
theorem OpP.nshr1 (hk:K (.int .u32 ((a/2:Nat):Int))):OpP .shr .u32 (a:Int) k' 1 K:=OpP.nshrv (n:=1) (by decide) hk
theorem ofInt_nat (w n:Nat):(BitVec.ofInt w (n:Int)).toNat=n%2^w:=by rw[BitVec.toNat_ofInt];omega
theorem or_sum {n x y:Nat} (hx:x%2^n=0) (hy:y<2^n):x ||| y=x+y:=by
 have e:x=2^n*(x/2^n):=by have:=Nat.mod_add_div x (2^n);omega
 rw[e,←Nat.two_pow_add_eq_or_of_lt hy]
theorem OpP.norv {k:IntKind} (n:Nat) (hx:a%2^n=0) (hy:b<2^n) (h:a+b<2^k.bits) (hw:k.wrap ((a+b:Nat):Int)=((a+b:Nat):Int)) (hk:K (.int k ((a+b:Nat):Int))):OpP .or k (a:Int) k (b:Int) K:=by
 refine OpP.go (v := .int k (k.wrap (BitVec.ofInt k.bits (a:Int) ||| BitVec.ofInt k.bits (b:Int)).toNat)) (by simp only[intBin,if_true]) ?_
 rw[BitVec.toNat_or,ofInt_nat,ofInt_nat,Nat.mod_eq_of_lt (by omega),Nat.mod_eq_of_lt (by omega),or_sum hx hy,hw]
 exact hk
theorem OpP.nor (h:a%4294967296=0∧b<4294967296∧a+b≤18446744073709551615) (hk:K (.int .u64 ((a+b:Nat):Int))):OpP .or .u64 (a:Int) .u64 (b:Int) K :=
 OpP.norv 32 h.1 h.2.1 (show a+b<18446744073709551616 by omega) (IntWalk.u64_in _ (by omega)) hk
theorem OpP.nand32 (h:a≤18446744073709551615) (hk:K (.int .u64 ((a%4294967296:Nat):Int))):OpP .and .u64 (a:Int) .u64 4294967295 K:=by
 refine OpP.go (v := .int .u64 (IntKind.u64.wrap (BitVec.ofInt IntKind.u64.bits (a:Int) &&& BitVec.ofInt IntKind.u64.bits 4294967295).toNat)) (by simp only[intBin,if_true]) ?_
 rw[BitVec.toNat_and,ofInt_nat,show (BitVec.ofInt IntKind.u64.bits 4294967295).toNat=2^32-1 by decide,Nat.and_two_pow_sub_one_eq_mod,show a%2^IntKind.u64.bits=a from Nat.mod_eq_of_lt (show a<18446744073709551616 by omega),IntWalk.u64_in _ (by omega)]
 exact hk
theorem OpP.nadd4 (hk:K (.int .u32 (((a+b)%4294967296:Nat):Int))):OpP .add .u32 (a:Int) .u32 (b:Int) K :=
 OpP.go (v := .int .u32 (IntKind.u32.wrap ((a:Int)+b))) (by simp only[intBin,if_true]) (by rw[←Int.natCast_add,wrap_u32];exact hk)
end
section
variable {K:Int→Prop} {n:Nat}
theorem ConvP.n64 (h:n≤18446744073709551615) (hk:K (n:Int)):ConvP .u64 (n:Int) K:=ConvP.id (IntWalk.u64_in _ (by omega)) hk
theorem ConvP.n32i (h:n≤4294967295) (hk:K (n:Int)):ConvP .u32 (n:Int) K:=ConvP.id (IntWalk.u32_in _ (by omega)) hk
theorem ConvP.n32 (hk:K ((n%4294967296:Nat):Int)):ConvP .u32 (n:Int) K:=by unfold ConvP;rw[wrap_u32];exact hk
theorem ConvP.n8 (h:n≤255) (hk:K (n:Int)):ConvP .u8 (n:Int) K:=ConvP.id (IntWalk.u8_in _ (by omega)) hk
end
theorem TbP.go {tb:List Nat} {n v:Nat} {K:Nat→Prop} (hv:tb[n]? = some v) (hk:K v):TbP tb (n:Int) K:=⟨by omega,v,by rw[Int.toNat_natCast];exact hv,hk⟩
abbrev e32 (n:Nat):List AV:=[.int .u32 (n:Int)]
theorem cl_dig (l:List Nat):CleanLL (l.map e32):=cleanLL_map (fun _=>by simp [CleanL,Clean]) l
section
variable {l:List Nat} {K:List AV→Prop}
theorem RdP.dig {n:Nat} (hD:Dig l) (hn:n<l.length) (h : ∀ e,l[n]? = some e→e<4294967296→K (e32 e)):RdP (l.map e32) (n:Int) 1 K :=
 RdP.nat hn (fun _=>rfl) fun e he=>h e he (hD.at he)
theorem RdP.digi {a:Int} (hD:Dig l) (hn:0≤a∧a<l.length) (h : ∀ e,l[a.toNat]? = some e→e<4294967296→K (e32 e)):RdP (l.map e32) a 1 K :=
 RdP.go hn (fun _=>rfl) fun e he=>h e he (hD.at he)
theorem LdR.dig {i:Nat} (hD:Dig l) (hi:i<l.length) (h : ∀ e,l[i]? = some e→e<4294967296→K (e32 e)):LdR (l.map e32) (0+((i:Int)).toNat) 0 1 K :=
 LdR.nat (f:=e32) hi (fun _=>rfl) fun e he=>h e he (hD.at he)
theorem LdR.digi {i:Int} (hD:Dig l) (hi:0≤i∧i<l.length) (h : ∀ e,l[i.toNat]? = some e→e<4294967296→K (e32 e)):LdR (l.map e32) (0+i.toNat) 0 1 K :=
 LdR.int (f:=e32) hi (fun _=>rfl) fun e he=>h e he (hD.at he)
theorem LdR.digo {i:Nat} (n:Nat) (hn:i=n) (hD:Dig l) (hi:n<l.length) (h : ∀ e,l[n]? = some e→e<4294967296→K (e32 e)):LdR (l.map e32) i 0 1 K:=by
 subst hn
 exact LdR.go e32 hi (fun _=>rfl) fun e he=>h e he (hD.at he)
theorem StR.dig {i v:Nat} {KK:List (List AV)→Prop} (hi:i<l.length) (h:KK ((l.set i v).map e32)):StR (l.map e32) (0+((i:Int)).toNat) 0 [.int .u32 (v:Int)] KK:=StR.nat (enc:=e32) v rfl (fun _=>rfl) hi h
theorem StR.digo {i v:Nat} {KK:List (List AV)→Prop} (n:Nat) (hn:i=n) (hi:n<l.length) (h:KK ((l.set n v).map e32)):StR (l.map e32) i 0 [.int .u32 (v:Int)] KK:=StR.at (enc:=e32) n v hn rfl (fun _=>rfl) hi h
end
end Go.Eng
namespace Go.Eng
variable {L:Lib}
theorem Ev.xE {f:Nat} {fn:AFn} {vs:List AV} {P:AV→Prop} (hL:L f=some fn) (hp:Nat.beq vs.length fn.pars=true) (hd:datAL vs=true) (h:AKM L [.code fn.body] (initTm 0 vs) [] (fun tm M => ∃ r,RetX fn r tm M∧P r)) (hs:fn.spl=false:=by rfl) : ∃ r,Ev L f vs r∧P r:=by
 obtain ⟨n,c,st',hr,σ,tm,M,hR,r,hq,hP⟩:=h (fun _ _=>(0,0)) ⟨initTm 0 vs,Own.emp⟩ ⟨fun j=>Or.inr (by rw[tg_eq];exact datAL_tg hd j),⟨(fun _ _ _ e=>by cases e),(fun _ _ _ e=>by simp [mref,mget]at e),(fun _ _ _ e=>by simp [mref,mget]at e),(fun _ _ _ _ _ _ e=>by simp [mref,mget]at e),(fun _ _ _ e=>by simp [mref,mget]at e)⟩⟩
 exact ⟨r,Ev.fwd hL (beq_iff.1 hp) ⟨n,c,st',hr,RetX_sound hR hq⟩ hs,hP⟩
def opRo:AOp→Bool
 | .vrow .. | .box .. | .alloc .. | .bslice .. | .st .. | .mk .. | .app .. | .cpy .. | .calli .. | .callv .. | .sto .. | .callr .. | .appo .. | .apz .. | .apd .. | .cals .. => false
 | _=>true
def cRo:ACode→Bool
 | .skip=>true
 | .ops l _=>l.all fun a=>opRo a.op
 | .dr c _ ss=>cRo c&&ss.isEmpty
 | .scope c=>cRo c
 | .seq a b=>cRo a&&cRo b
 | .cond _ a b=>cRo a&&cRo b
 | .block _ c=>cRo c
 | .loop c=>cRo c
 | .exit _=>true
 | .ret=>true
def iRo:It→Bool
 | .code c=>cRo c
 | .drp _ ss=>ss.isEmpty
 | .blk _=>true
 | .lp c=>cRo c
theorem eff_ro {C:Cl} {ban:List Nat} {ρ:Opd→AV} {own:Own} {op:AOp} {E:Eff} (ho:opRo op=true) (h:eff C ban ρ own op=some E) : ∃ v,E = .val v:=by
 cases op<;>first|(simp [opRo]at ho;done)|skip
 all_goals simp only[eff]at h
 all_goals
  first
   | (simp only[Option.some.injEq]at h;exact ⟨_,h.symm⟩)
   | (simp only[Option.map_eq_some_iff]at h;obtain ⟨_,_,rfl⟩:=h;exact ⟨_,rfl⟩)
   | skip
 all_goals (repeat' split at h)
 all_goals
  first
   | (cases h;done)
   | (simp only[Option.some.injEq]at h;exact ⟨_,h.symm⟩)
   | (simp only[Option.map_eq_some_iff]at h;obtain ⟨_,_,rfl⟩:=h;exact ⟨_,rfl⟩)
theorem stepI_ro {C:Cl} {a:AI} (ho:opRo a.op=true) {s s':St} (h:stepI C a s=some s'):s'.own=s.own:=by
 unfold stepI at h
 split at h
 ·cases he:eff C a.ban s.ev s.own a.op with
  | none=>rw[he]at h;cases h
  | some E =>
   rw[he]at h
   obtain ⟨v,rfl⟩:=eff_ro ho he
   simp only[Option.map_some,Option.some.injEq]at h
   subst h
   simp only[St.app]
   cases a.dst<;>rfl
 ·simp only[Option.some.injEq]at h
  subst h
  cases a.dst<;>rfl
 ·cases h
theorem stepL_ro {C:Cl} : ∀ {l:List AI},(l.all fun a=>opRo a.op)=true → ∀ {s s':St},stepL C l s=some s'→s'.own=s.own
 | [],_,s,s',h=>by simp only[stepL,Option.some.injEq]at h;rw[h]
 | a::l,ho,s,s',h=>by
  simp only[List.all_cons,Bool.and_eq_true]at ho
  simp only[stepL]at h
  cases h1:stepI C a s with
  | none=>rw[h1]at h;cases h
  | some s1 =>
   rw[h1]at h
   rw[stepL_ro ho.2 h,stepI_ro ho.1 h1]
theorem exitA_ro {id:Nat} : ∀ {k k':List It},k.all iRo=true→exitA id k=some k'→k'.all iRo=true
 | [],_,_,h=>by simp [exitA]at h
 | it::k,k',hk,h=>by
  simp only[List.all_cons,Bool.and_eq_true]at hk
  cases it with
  | blk i =>
   simp only[exitA]at h
   split at h
   ·cases h;exact hk.2
   ·exact exitA_ro hk.2 h
  | code c=>simp only[exitA]at h;exact exitA_ro hk.2 h
  | drp a b=>simp only[exitA]at h;exact exitA_ro hk.2 h
  | lp c=>simp only[exitA]at h;exact exitA_ro hk.2 h
theorem run_ro {C:Cl} : ∀ (n:Nat) {k:List It},k.all iRo=true → ∀ {s s':St},run C n k s=some s'→s'.own=s.own
 | 0,k,_,s,s',h=>by simp [run]at h
 | n+1,[],_,s,s',h=>by
  simp only[run,Option.some.injEq]at h
  rw[h]
 | n+1,it::k,hk,s,s',h=>by
  have hk':=hk
  simp only[List.all_cons,Bool.and_eq_true]at hk
  obtain ⟨hi,hk⟩:=hk
  cases it with
  | blk _=>simp only[run]at h;exact run_ro n hk h
  | drp ts ss =>
   have:ss=[]:=by simpa [iRo] using hi
   subst this
   simp only[run]at h
   rw[run_ro n hk h];rfl
  | lp c=>simp only[run]at h;exact run_ro n (by simp only[List.all_cons,Bool.and_eq_true];exact ⟨hi,hi,hk⟩) h
  | code c =>
   cases c with
   | skip=>simp only[run]at h;exact run_ro n hk h
   | ops l d =>
    simp only[run]at h
    cases h1:stepL C l s with
    | none=>rw[h1]at h;cases h
    | some s1 =>
     rw[h1]at h
     rw[run_ro n hk h,stepL_ro (show (l.all fun a=>opRo a.op)=true from hi) h1]
   | dr c ts ss =>
    simp only[run]at h
    simp only[iRo,cRo,Bool.and_eq_true]at hi
    exact run_ro n (by simp only[List.all_cons,Bool.and_eq_true];exact ⟨hi.1,hi.2,hk⟩) h
   | scope c=>simp only[run]at h;exact run_ro n (by simp only[List.all_cons,Bool.and_eq_true];exact ⟨hi,hk⟩) h
   | seq a b =>
    simp only[run]at h
    simp only[iRo,cRo,Bool.and_eq_true]at hi
    exact run_ro n (by simp only[List.all_cons,Bool.and_eq_true];exact ⟨hi.1,hi.2,hk⟩) h
   | cond x a b =>
    simp only[iRo,cRo,Bool.and_eq_true]at hi
    simp only[run]at h
    split at h
    ·exact run_ro n (by simp only[List.all_cons,Bool.and_eq_true];exact ⟨hi.1,hk⟩) h
    ·exact run_ro n (by simp only[List.all_cons,Bool.and_eq_true];exact ⟨hi.2,hk⟩) h
    ·cases h
   | block id c=>simp only[run]at h;exact run_ro n (by simp only[List.all_cons,Bool.and_eq_true];exact ⟨hi,rfl,hk⟩) h
   | loop c=>simp only[run]at h;exact run_ro n (by simp only[List.all_cons,Bool.and_eq_true];exact ⟨hi,hi,hk⟩) h
   | exit id =>
    simp only[run]at h
    split at h
    ·rename_i k' he
     exact run_ro n (exitA_ro hk he) h
    ·cases h
   | ret =>
    simp only[run,Option.some.injEq]at h
    rw[h]
def RetD (fn:AFn) (r:AV) (tm:Tm) (_M:Mem):Prop := ∃ rs,resI tm fn.res=some rs∧resVal rs=r
def datR:AV→Bool
 | .tup vs=>datAL vs
 | v=>datA v
theorem datR_st3 {σ:Stp} {v:AV} (h:datR v=true):st3 σ v=v:=by
 cases v with
 | tup vs =>
  simp only[st3]
  congr 1
  simp only[datR]at h
  induction vs with
  | nil=>rfl
  | cons v r ih =>
   simp only[datAL]at h
   cases hv:datA v<;>simp only[hv,cond_true,cond_false]at h
   ·cases h
   ·rw[List.map_cons,ih h]
    congr 1
    cases v<;>first|rfl|(simp [datA,dat]at hv;done)|skip
    rename_i cs
    exact datA_st3 (σ:=σ) (v := .agg cs) hv
 | _=>exact datA_st3 (σ:=σ) h
def RoF (L:Lib) (f:Nat) (vs:List AV) (r:AV):Prop:=datR r=true∧(∀ σ:Stp,vs.map (st3 σ)=vs) ∧ ∀ own:Own,EvI L f vs own r own
theorem datAL_map {σ:Stp} : ∀ {vs:List AV},datAL vs=true→vs.map (st3 σ)=vs
 | [],_=>rfl
 | v::r,h=>by
  simp only[datAL]at h
  cases hv:datA v<;>simp only[hv,cond_true,cond_false]at h
  ·cases h
  ·rw[List.map_cons,datA_st3 hv,datAL_map h]
theorem RoF.x {f:Nat} {fn:AFn} {vs:List AV} {r:AV} (hL:L f=some fn) (hp:Nat.beq vs.length fn.pars=true) (hd:datAL vs=true) (hro:cRo fn.body=true) (hlt:resLt 100000 fn.res=true) (hr:datR r=true) (h:AKM L [.code fn.body] (initTm 0 vs) [] (RetD fn r)):RoF L f vs r:=by
 refine ⟨hr,fun σ=>datAL_map hd,fun own => ?_⟩
 obtain ⟨n,c,st',hrun,σ,tm,M,hR,rs,hrs,he⟩:=h (fun _ _=>(0,0)) ⟨initTm 0 vs,own⟩ ⟨fun j=>Or.inr (by rw[tg_eq];exact datAL_tg hd j),⟨(fun _ _ _ e=>by cases e),(fun _ _ _ e=>by simp [mref,mget]at e),(fun _ _ _ e=>by simp [mref,mget]at e),(fun _ _ _ _ _ _ e=>by simp [mref,mget]at e),(fun _ _ _ e=>by simp [mref,mget]at e)⟩⟩
 have ho:=run_ro n (by simp [iRo,hro]) hrun
 obtain ⟨i1,i2⟩:=resI_sound (N:=100000) (s:=st') hR (fun _ _=>rfl) hlt hrs
 refine EvI.intro hL (beq_iff.1 hp) ⟨n,c,st',hrun,?_,ho⟩
 rw[i1,Option.map_some,resVal_st i2,he,datR_st3 hr]
theorem CalP.ro {f:Nat} {vs:List AV} {r:AV} {tm:Tm} {M:Mem} {K:AV→Mem→Prop} (h:RoF L f vs r) (hk:K r M):CalP L f vs tm M K:=by
 intro σ own hs
 refine ⟨r,own,σ,M,?_,hs,fun _=>rfl,hk⟩
 rw[h.2.1 σ,datR_st3 h.1]
 exact h.2.2 own
end Go.Eng

namespace Go.Eng
open F
attribute [local irreducible] AKM CmpP Req OpP UnP ConvP RdP LdR StR MkR LenP AppR AppN CpyR RowP SnR Bds SlS CallP CalP FinP pw LdM GetM SetM PutM MkM AppM SnM FlP CallR
set_option maxHeartbeats 1000000
variable {L:Lib}
def cmpS (a b:Int):Int:=if a<b then -1 else if b<a then 1 else 0
theorem cmpS_lt {a b:Int} (h:a<b) : -1=cmpS a b:=by unfold cmpS;rw[if_pos h]
theorem cmpS_gt {a b:Int} (h:b<a):1=cmpS a b:=by unfold cmpS;rw[if_neg (by omega),if_pos h]
theorem cmpS_eq {a b:Int} (h:a=b):0=cmpS a b:=by unfold cmpS;rw[if_neg (by omega),if_neg (by omega)]
theorem ev_isNaN_int (N:NatGLib L) (a:Int):Ev L 58 [.int .i64 a] (.bool false):=by
 refine Ev.x N.cmp_isNaN_int rfl rfl ?_
 (repeat' (first|(refine CmpP.go (fun hc => ?_) (fun hc => ?_)<;>first|(exfalso;omega)|(conv=>whnf))|(refine AKM.x ?_;conv=>whnf)))
 exact FinP.b rfl
theorem ev_isNaN_uint32 (N:NatGLib L) (a:Int):Ev L 59 [.int .u32 a] (.bool false):=by
 refine Ev.x N.cmp_isNaN_uint32 rfl rfl ?_
 (repeat' (first|(refine CmpP.go (fun hc => ?_) (fun hc => ?_)<;>first|(exfalso;omega)|(conv=>whnf))|(refine AKM.x ?_;conv=>whnf)))
 exact FinP.b rfl
theorem ev_Compare_int (N:NatGLib L) (a b:Int):Ev L 60 [.int .i64 a,.int .i64 b] (.int .i64 (cmpS a b)):=by
 refine Ev.x N.cmp_Compare_int rfl rfl ?_
 (repeat' (first|(refine CmpP.go (fun hc => ?_) (fun hc => ?_)<;>first|(exfalso;omega)|(conv=>whnf))|(refine AKM.x ?_;conv=>whnf)|(refine CallP.go (ev_isNaN_int N _) ?_;conv=>whnf)))
 ·exact FinP.i (cmpS_lt (by omega))
 ·exact FinP.i (cmpS_gt (by omega))
 ·exact FinP.i (cmpS_eq (by omega))
theorem ev_Compare_uint32 (N:NatGLib L) (a b:Int):Ev L 61 [.int .u32 a,.int .u32 b] (.int .i64 (cmpS a b)):=by
 refine Ev.x N.cmp_Compare_uint32 rfl rfl ?_
 (repeat' (first|(refine CmpP.go (fun hc => ?_) (fun hc => ?_)<;>first|(exfalso;omega)|(conv=>whnf))|(refine AKM.x ?_;conv=>whnf)|(refine CallP.go (ev_isNaN_uint32 N _) ?_;conv=>whnf)))
 ·exact FinP.i (cmpS_lt (by omega))
 ·exact FinP.i (cmpS_gt (by omega))
 ·exact FinP.i (cmpS_eq (by omega))
theorem ev_Clone (N:NatGLib L) (l:List Nat) (q:Bool) (hl:l.length≤1099511627776):Ev L 62 [.sl q (l.map e32)] (.sl false (l.map e32)):=by
 cases l with
 | nil =>
  refine EvD.nil N.slices_Clone_uint32_uint32 (EvD.x N.slices_Clone_uint32_uint32 rfl rfl ?_) (EvD.x N.slices_Clone_uint32_uint32 rfl rfl ?_)
  ·(repeat' (refine AKM.x ?_;conv=>whnf))
   exact FinP.go rfl (by simp [Clean,CleanLL])
  ·(repeat' (refine AKM.x ?_;conv=>whnf))
   refine AppR.many (enc:=e32) (l:=[]) (l':=[]) rfl (fun _=>rfl) (by simp) (by simp) ?_
   (conv=>whnf)
   (repeat' (refine SnR.all (fun _=>rfl) rfl ?_ ?_;(first|rfl|simp);conv=>whnf))
   exact FinP.go rfl (by simp [Clean,CleanLL])
 | cons d l =>
  refine EvD.cons (EvD.x N.slices_Clone_uint32_uint32 rfl rfl ?_)
  (repeat' (refine AKM.x ?_;conv=>whnf))
  refine Req.go (by simp) ?_
  (conv=>whnf)
  skip
  refine AppR.many (enc:=e32) (l:=[]) (l':=d::l) rfl (fun _=>rfl) (by simp at hl ⊢;omega) (by simp at hl ⊢;omega) ?_
  (conv=>whnf)
  (repeat' (refine SnR.all (fun _=>rfl) rfl ?_ ?_;(first|rfl|simp);conv=>whnf))
  exact FinP.go rfl (by simp only[Clean,true_and];exact cl_dig (d::l))
theorem ro_cut (N:NatGLib L) (l:List Nat) (q:Bool) (hD:Dig l) (hl:l.length≤1099511627776):RoF L 65 [.sl q (l.map e32)] (.sl q ((dg (val l)).map e32)):=by
 refine RoF.x N.nat_cut rfl rfl rfl rfl rfl ?_
 (repeat' (first|(refine LenP.go ?_;conv=>whnf)|(refine AKM.x ?_;conv=>whnf)))
 refine AKM.loop1 (fun n=>n) (fun (n:Nat)=>n≤l.length ∧ ∀ i,n≤i→i<l.length→l[i]? = some 0) (fun n=>[(3,.int .i64 n)]) (fun _=>[]) [] [] l.length (by (conv=>whnf);exact ⟨rfl,rfl,rfl⟩) ⟨Nat.le_refl _,fun i h1 h2=>by omega⟩ ?_
 intro n ⟨p1,p2⟩ ih
 rcases n with _|n
 ·(repeat' (first|(refine CmpP.go (fun hc => ?_) (fun hc => ?_)<;>first|(exfalso;omega)|(conv=>whnf))|(refine AKM.x ?_;conv=>whnf)))
  refine SlS.to (k:=0) (fun _=>rfl) (by omega) ?_
  (conv=>whnf)
  refine ⟨_,rfl,?_⟩
  rw[cut_found hD p1 p2 (Or.inl rfl)];rfl
 ·have e1:((n+1:Nat):Int)-1=n:=by omega
  (repeat' (first|(refine CmpP.go (fun hc => ?_) (fun hc => ?_)<;>first|(exfalso;omega)|(conv=>whnf))|(refine OpP.sub ?_ ?_;omega;conv=>whnf)|(refine RdP.digi (by assumption) ?_ (fun e he hb => ?_);omega;conv=>whnf)|(refine AKM.x ?_;conv=>whnf)))
  ·rw[e1]
   exact AKM.back [] (by (conv=>whnf);exact ⟨rfl,rfl,rfl⟩) (ih n (by omega) ⟨by omega,fun i h1 h2=>by
    by_cases h:i=n
    ·subst h
     rw[e1,Int.toNat_natCast]at he
     rw[he];congr 1;omega
    ·exact p2 i (by omega) h2⟩)
  ·refine SlS.to (k:=n+1) (fun _=>rfl) (by omega) ?_
   (conv=>whnf)
   refine ⟨_,rfl,?_⟩
   rw[e1,Int.toNat_natCast]at he
   rw[cut_found hD p1 p2 (Or.inr ⟨e,he,by omega⟩)];rfl
theorem ev_Trim (N:NatGLib L) (l:List Nat) (q:Bool) (hD:Dig l) (hl:l.length≤1099511627776):Ev L 66 [.sl q (l.map e32)] (.sl false ((dg (val l)).map e32)):=by
 have hc:=dg_len_val hD
 refine Ev.x N.nat_Trim rfl rfl ?_
 (repeat' (first|(refine AKM.x ?_;conv=>whnf)|(refine CalP.ro (ro_cut N l _ hD hl) ?_;conv=>whnf)|(refine CallP.go (ev_Clone N (dg (val l)) _ (by omega)) ?_;conv=>whnf)))
 exact FinP.go rfl (by simp only[Clean,true_and];exact cl_dig _)
theorem cmp_len {a b:Nat} (h:((dg a).length:Int)≠(dg b).length):cmpS (dg a).length (dg b).length=cmpS a b:=by
 rcases Nat.lt_trichotomy (dg a).length (dg b).length with h1|h1|h1
 ·have:=val_lt_of_len h1
  rw[←cmpS_lt (by omega),←cmpS_lt (by omega)]
 ·omega
 ·have:=val_lt_of_len h1
  rw[←cmpS_gt (by omega),←cmpS_gt (by omega)]
theorem ev_nat_Compare (N:NatGLib L) (a b:List Nat) (q1 q2:Bool) (hA:Dig a) (hB:Dig b) (la:a.length≤1099511627776) (lb:b.length≤1099511627776):Ev L 67 [.sl q1 (a.map e32),.sl q2 (b.map e32)] (.int .i64 (cmpS (val a) (val b))):=by
 have l1:=dg_len_val hA
 have l2:=dg_len_val hB
 have d1:=dig_dg (val a)
 have d2:=dig_dg (val b)
 refine Ev.x N.nat_Compare rfl rfl ?_
 (repeat' (first|(refine CmpP.go (fun hc => ?_) (fun hc => ?_)<;>first|(exfalso;omega)|(conv=>whnf))|(refine OpP.sub ?_ ?_;omega;conv=>whnf)|(refine LenP.go ?_;conv=>whnf)|(refine AKM.x ?_;conv=>whnf)|(refine CalP.ro (ro_cut N a _ hA la) ?_;conv=>whnf)|(refine CalP.ro (ro_cut N b _ hB lb) ?_;conv=>whnf)|(refine CallP.go (ev_Compare_int N _ _) ?_;conv=>whnf)))
 ·exact FinP.i (cmp_len (by omega))
 have hlen:(dg (val a)).length=(dg (val b)).length:=by omega
 have v1:=val_dg (val a)
 have v2:=val_dg (val b)
 generalize dg (val a)=X at *
 generalize dg (val b)=Y at *
 refine AKM.loop1 (fun n=>n) (fun (n:Nat)=>n≤X.length∧X.drop n=Y.drop n) (fun n=>[(7,.int .i64 ((n:Int)-1))]) (fun _=>[]) [] [] X.length (by (conv=>whnf);exact ⟨rfl,rfl,rfl⟩) ⟨Nat.le_refl _,by rw[List.drop_of_length_le (Nat.le_refl _),List.drop_of_length_le (by omega)]⟩ ?_
 intro n ⟨p1,p2⟩ ih
 rcases n with _|n
 ·(repeat' (first|(refine CmpP.go (fun hc => ?_) (fun hc => ?_)<;>first|(exfalso;omega)|(conv=>whnf))|(refine AKM.x ?_;conv=>whnf)))
  rw[List.drop_zero,List.drop_zero]at p2
  exact FinP.i (cmpS_eq (by rw[←v1,←v2,p2]))
 ·have e1:((n+1:Nat):Int)-1=n:=by omega
  rw[e1]
  (repeat' (first|(refine CmpP.go (fun hc => ?_) (fun hc => ?_)<;>first|(exfalso;omega)|(conv=>whnf))|(refine OpP.sub ?_ ?_;omega;conv=>whnf)|(refine RdP.at (by assumption) ?_ rfl ?_;omega;conv=>whnf)|(refine RdP.dig (by assumption) ?_ (fun e he hb => ?_);omega;conv=>whnf)|(refine AKM.x ?_;conv=>whnf)|(refine CallP.go (ev_Compare_uint32 N _ _) ?_;conv=>whnf)))
  ·rename_i x hx _
   rcases Nat.lt_trichotomy x e with h|h|h
   ·have:=val_lt_of_drop d1 d2 hlen hx he p2 h
    refine FinP.i ?_
    rw[←cmpS_lt (by omega),←cmpS_lt (by omega)]
   ·omega
   ·have:=val_lt_of_drop d2 d1 hlen.symm he hx p2.symm h
    refine FinP.i ?_
    rw[←cmpS_gt (by omega),←cmpS_gt (by omega)]
  ·rename_i x hx _
   refine AKM.back [] (by (conv=>whnf);exact ⟨rfl,rfl,rfl⟩) (ih n (by omega) ⟨by omega,?_⟩)
   obtain ⟨i1,e1⟩:=zS hx
   obtain ⟨i2,e2⟩:=zS he
   rw[List.drop_eq_getElem_cons i1,List.drop_eq_getElem_cons i2,p2,e1,e2]
   congr 1
   omega
end Go.Eng

namespace Go.Eng
section
variable {U V UL VL p u0 u1 u2 v1 v2 top q r:Nat}
theorem guess_top (hU:U=UL+p*(u2+4294967296*top)) (hV:V=VL+p*(v2+4294967296*v1)) (hl:UL<p) (h2:u2<4294967296) (hV0:0<V):U/V*v1≤top:=by
 have h1:U/V*V≤U:=Nat.div_mul_le_self U V
 generalize U/V=Q at *
 have h3:U<p*(4294967296*(top+1)):=by
  have:p*(u2+4294967296*top)+p≤p*(4294967296*(top+1)):=by
   rw[←Nat.mul_succ];exact Nat.mul_le_mul_left p (by omega)
  omega
 have h4:p*(4294967296*(Q*v1))≤Q*V:=by
  have e:Q*V=Q*VL+Q*(p*v2)+p*(4294967296*(Q*v1)):=by rw[hV];grind
  omega
 have h5:p*(4294967296*(Q*v1))<p*(4294967296*(top+1)):=by omega
 have:=Nat.lt_of_mul_lt_mul_left h5
 omega
theorem guess_dec (hU:U=UL+p*(u2+4294967296*top)) (hV:V=VL+p*(v2+4294967296*v1)) (hl:UL<p) (hq:q*v1+r=top) (h:r*4294967296+u2<q*v2) (hV0:0<V):U/V<q:=by
 rw[Nat.div_lt_iff_lt_mul hV0]
 have e:q*V=q*VL+p*(q*v2+4294967296*(q*v1)):=by rw[hV];grind
 have h1:p*(u2+4294967296*top)+p≤p*(q*v2+4294967296*(q*v1)):=by
  rw[←Nat.mul_succ];exact Nat.mul_le_mul_left p (by omega)
 omega
theorem guess_big (h:U<4294967296*V) (hq:4294967296≤q) (hV0:0<V):U/V<q:=by
 have:U/V<4294967296:=(Nat.div_lt_iff_lt_mul hV0).2 h
 omega
theorem guess_end (hU:U=UL+p*(u2+4294967296*top)) (hV:V=VL+p*(v2+4294967296*v1)) (hVl:VL<p) (h1:2147483648≤v1) (hq:q*v1+r=top) (h:q*v2≤r*4294967296+u2) (hqB:q<4294967296):q≤U/V+1:=by
 have hV0:0<V:=by
  have:p*4294967296≤p*(v2+4294967296*v1):=Nat.mul_le_mul_left p (by omega)
  omega
 by_cases h0:q=0
 ·subst h0;exact Nat.zero_le _
 have e:q*V=q*VL+p*(q*v2+4294967296*(q*v1)):=by rw[hV];grind
 have h2:p*(q*v2+4294967296*(q*v1))≤p*(u2+4294967296*top):=Nat.mul_le_mul_left p (by omega)
 have h3:q*VL<V:=by
  have a1:q*VL≤4294967296*VL:=Nat.mul_le_mul_right _ (by omega)
  have a2:p*4294967296≤p*(v2+4294967296*v1):=Nat.mul_le_mul_left p (by omega)
  omega
 have h4:(q-1)*V<U+1:=by
  have:(q-1)*V+V=q*V:=by
   have:q=q-1+1:=by omega
   rw[←Nat.succ_mul,Nat.succ_eq_add_one,←this]
  omega
 have h5:q-1≤U/V:=(Nat.le_div_iff_mul_le hV0).2 (by omega)
 omega
end
theorem digit_ok {U V U' q:Nat} (hV0:0<V) (h1:U/V≤q) (h:U'+q*V=U):q=U/V∧U'=U%V:=by
 have h2:q*V≤U:=by omega
 have h3:q≤U/V:=(Nat.le_div_iff_mul_le hV0).2 h2
 have h4:q=U/V:=by omega
 have:=Nat.div_add_mod U V
 rw[Nat.mul_comm,←h4]at this
 exact ⟨h4,by omega⟩
theorem digit_back {U V U' q P:Nat} (hV0:0<V) (h2:q≤U/V+1) (hU':U'<P) (h:U'+q*V=U+P):q-1=U/V∧1≤q∧U'+V=U%V+P:=by
 have h3:U/V*V≤U:=Nat.div_mul_le_self U V
 have h4:U/V<q:=by
  rcases Nat.lt_or_ge (U/V) q with h|h
  ·exact h
  ·have:q*V≤U/V*V:=Nat.mul_le_mul_right _ h
   omega
 have h6:=Nat.div_add_mod U V
 rw[Nat.mul_comm]at h6
 generalize U/V=Q at *
 generalize U%V=R at *
 obtain rfl:q=Q+1:=by omega
 rw[Nat.add_mul,Nat.one_mul]at h
 exact ⟨by omega,by omega,by omega⟩
theorem sub_step {u pl bw:Nat} (hu:u<4294967296) (hp:pl<4294967296) (hb:bw≤1):w64s (w64s u pl) bw%4294967296+pl+bw=u+4294967296*(w64s (w64s u pl) bw/9223372036854775808)∧w64s (w64s u pl) bw/9223372036854775808≤1:=by
 rw[w64s_def,w64s_def];omega
theorem sub_step2 {d e bw:Nat} (hu:d<4294967296) (hp:e<4294967296) (hb:bw≤1):w64s (w64s d bw) e%4294967296+e+bw=d+4294967296*(w64s (w64s d bw) e/9223372036854775808)∧w64s (w64s d bw) e/9223372036854775808≤1:=by
 rw[w64s_def,w64s_def];omega
theorem sub_step1 {d bw:Nat} (hu:d<4294967296) (hb:bw≤1):w64s d bw%4294967296+bw=d+4294967296*(w64s d bw/9223372036854775808)∧w64s d bw/9223372036854775808≤1:=by
 rw[w64s_def];omega
theorem sub_carry {V Y X p D e bw bw' d:Nat} (h:V+Y=X+p*bw) (hd:D+e+bw=d+4294967296*bw'):V+p*D+(Y+p*e)=X+p*d+p*4294967296*bw':=by
 have h2:p*D+p*e+p*bw=p*d+p*4294967296*bw':=by
  rw[←Nat.mul_add,←Nat.mul_add,hd,Nat.mul_add,Nat.mul_assoc]
 omega
theorem mul_le_dig {a b:Nat} (ha:a<4294967296) (hb:b<4294967296):a*b≤18446744065119617025 :=
 Nat.mul_le_mul (show a≤4294967295 by omega) (show b≤4294967295 by omega)
theorem div_scale {X Y s:Nat} (hs:0<s):X*s/(Y*s)=X/Y∧X*s%(Y*s)/s=X%Y:=by
 refine ⟨Nat.mul_div_mul_right X Y hs,?_⟩
 rw[Nat.mul_mod_mul_right,Nat.mul_div_cancel _ hs]
end Go.Eng
