/-
  The walk by computation is sound: calls, regions, code, loops, functions.
-/
import Derived.Test.YtpefogchdoedbaaGreatB6
import Derived.Test.YtpefogchdoedbaaGreatB5
set_option linter.unusedSimpArgs false
set_option linter.unusedVariables false
set_option linter.unnecessarySimpa false
namespace Go.Eng
section
variable {σ:FJ} {tm:Tm} {M:Mem} {st:St} {L:Lib} {ban:List Nat}
theorem oQ {own:AH} {q:Bool} {d:Nat} : ∀ {e:List AV},FK e=true->e.mapM (snap own q d)=some e
 | [],_=>rfl
 | v::r,h=>by
  have hv:snap own q d v=some v/\FK r=true:=by
   cases v<;>simp only[FK]at h<;>first|cases h|exact ⟨by cases d<;>rfl,h⟩
  rw[List.mapM_cons,hv.1,oQ hv.2];rfl
theorem oS {own:AH} {q:Bool} {d:Nat} : ∀ {e:List AV},NB e=true->e.mapM (snap own q d)=some (e.map nl)
 | [],_=>rfl
 | v::r,h=>by
  have hv:snap own q d v=some (nl v)/\NB r=true:=by
   cases v<;>simp only[NB]at h<;>first|cases h|exact ⟨by cases d<;>rfl,h⟩
  rw[List.mapM_cons,hv.1,oS hv.2];rfl
theorem oR {own:AH} {q:Bool} {d:Nat} : ∀ {es:List (List AV)},(∀ e∈es,NB e=true)->es.mapM (fun cs:List AV=>cs.mapM (snap own q d))=some (es.map fun e=>e.map nl)
 | [],_=>rfl
 | e::r,h=>by
  rw[List.mapM_cons,oS (h e List.mem_cons_self),oR fun x hx=>h x (List.mem_cons_of_mem _ hx)];rfl
theorem oP {own:AH} {q:Bool} {d:Nat} : ∀ {es:List (List AV)},(∀ e∈es,FK e=true)->es.mapM (fun cs:List AV=>cs.mapM (snap own q d))=some es
 | [],_=>rfl
 | e::r,h=>by
  rw[List.mapM_cons,oQ (h e List.mem_cons_self),oP fun x hx=>h x (List.mem_cons_of_mem _ hx)];rfl
theorem qT (hs:MJ σ st.own M) {q:Bool} {v:AV} {K:AV->Prop} (h:Q7 q M ban v K) : ∃ v',(∀ d,snap (st.own.hide ban) q (d+1) (BD σ v)=some v')/\K v'/\v ≠ .any/\BW σ v=BD σ v:=by
 cases v with
 | row key t z off len =>
  have fin : ∀ (z':Nat) (es:List (List AV)),((st.own.hide ban) (σ key t).1).blk (σ key t).2=some ⟨z',es⟩->z=z'->AZ es off len (fun es=>K (.sl q es)) -> ∃ v',(∀ d,snap (st.own.hide ban) q (d+1) (BD σ (.row key t z off len))=some v')/\K v'/\AV.row key t z off len ≠ .any/\BW σ (.row key t z off len)=BD σ (.row key t z off len):=by
   intro z' es hb hz h
   subst hz
   obtain ⟨h1,h2,h3⟩:=h
   refine ⟨_,fun d => ?_,h3,(by intro e;cases e),rfl⟩
   simp only[BD,snap,D9,AH.get,hb]
   rw[if_pos ⟨h1,trivial⟩]
   simp only
   rw[oR fun e he=>h2 e (List.mem_of_mem_drop (List.mem_of_mem_take he))]
   rfl
  simp only[Q7]at h
  split at h
  ·rename_i s z' es hm
   split at h
   ·cases hz:Nat.beq z z'<;>simp only[hz,cond_true,cond_false]at h
    cases hb:PI s ban<;>simp only[hb,cond_true,cond_false]at h
    refine fin z' es ?_ (BP.1 hz) h
    have hbk:=hs.blk _ _ _ (DU hm)
    rw[hs.site _ _ _ hm]at hbk ⊢
    rw[SH hb];exact hbk
   ·exact h.elim
  ·rename_i s rows hm
   split at h
   ·exact h.elim
   ·rename_i i
    split at h
    ·obtain ⟨z',es,g,h⟩:=h
     cases hz:Nat.beq z z'<;>simp only[hz,cond_true,cond_false]at h
     exact fin z' es (hs.blk key (i+1) (.rw z' es) (by simp [mref,hm,g])) (BP.1 hz) h
    ·rename_i b r
     cases hb:QT (b::r)<;>simp only[hb,cond_true,cond_false]at h
     obtain ⟨z',es,g,h⟩:=h
     cases hz:Nat.beq z z'<;>simp only[hz,cond_true,cond_false]at h
     have g':mref M key (i+1)=some (.rw z' es):=by simp [mref,hm,g]
     refine fin z' es ?_ (BP.1 hz) h
     rw[cC (hs.low _ _ _ g' rfl) hb]
     exact hs.blk key (i+1) (.rw z' es) g'
  ·exact h.elim
 | int k n=>exact ⟨_,fun d=>rfl,h,(by intro e;cases e),rfl⟩
 | bool b=>exact ⟨_,fun d=>rfl,h,(by intro e;cases e),rfl⟩
 | sl l es=>exact ⟨_,fun d=>rfl,h,(by intro e;cases e),rfl⟩
 | con c=>exact ⟨_,fun d=>rfl,h,(by intro e;cases e),rfl⟩
 | nil=>exact ⟨_,fun d=>rfl,h,(by intro e;cases e),rfl⟩
 | _=>exact (h:False).elim
theorem qS (hs:MJ σ st.own M) {q:Bool} : ∀ {l:List AV} {K:List AV->Prop},XW q M ban l K -> ∃ l',(∀ d,(l.map (BD σ)).mapM (snap (st.own.hide ban) q (d+1))=some l')/\K l'
 | [],K,h=>⟨[],fun d=>rfl,h⟩
 | v::r,K,h=>by
  obtain ⟨v',h1,h2,_⟩:=qT hs (show Q7 q M ban v fun v'=>XW q M ban r fun r'=>K (v'::r') from h)
  obtain ⟨l',h3,h4⟩:=qS hs h2
  refine ⟨v'::l',fun d => ?_,h4⟩
  rw[List.map_cons,List.mapM_cons,h1 d,h3 d];rfl
theorem qR (hs:MJ σ st.own M) {q:Bool} : ∀ {l:List (List AV)} {K:List (List AV)->Prop},dF q M ban l K -> ∃ l',(∀ d,(l.map fun cs=>cs.map (BD σ)).mapM (fun cs:List AV=>cs.mapM (snap (st.own.hide ban) q (d+1)))=some l')/\K l'
 | [],K,h=>⟨[],fun d=>rfl,h⟩
 | v::r,K,h=>by
  obtain ⟨v',h1,h2⟩:=qS hs (show XW q M ban v fun v'=>dF q M ban r fun r'=>K (v'::r') from h)
  obtain ⟨l',h3,h4⟩:=qR hs h2
  refine ⟨v'::l',fun d => ?_,h4⟩
  rw[List.map_cons,List.mapM_cons,h1 d,h3 d];rfl
theorem cU {own:AH} {q:Bool} {d:Nat} {k:Nat} : ∀ {rows:List (Option (Nat × List (List AV)))} {i:Nat},(∀ j z es,rows[j]? = some (some (z,es))->(own (σ k (i+j+1)).1).blk (σ k (i+j+1)).2=some ⟨z,es⟩ /\ ∀ e∈es,FK e=true) ->
  (CG σ k i rows).mapM (fun cs:List AV=>cs.mapM (snap own q (d+1)))=some (PN q rows)
 | [],i,h=>rfl
 | none::r,i,h=>by
  rw[CG,List.mapM_cons,cU (i:=i+1) fun j z es hj=>by
   have:=h (j+1) z es (by simpa using hj)
   rwa [show i+(j+1)+1=i+1+j+1 by omega]at this]
  rfl
 | some (z,es)::r,i,h=>by
  rw[CG,List.mapM_cons,cU (i:=i+1) fun j z es hj=>by
   have:=h (j+1) z es (by simpa using hj)
   rwa [show i+(j+1)+1=i+1+j+1 by omega]at this]
  obtain ⟨h1,h2⟩:=h 0 z es rfl
  have:snap own q (d+1) (.row (σ k (i+1)).1 (σ k (i+1)).2 z 0 es.length)=some (.sl q es):=by
   simp only[snap,D9,AH.get]
   rw[show (own (σ k (i+1)).1).blk (σ k (i+1)).2=some ⟨z,es⟩ from h1]
   simp only[Nat.zero_add,Nat.le_refl,and_self,if_true,List.drop_zero]
   rw[List.take_of_length_le (Nat.le_refl _),oP h2]
   rfl
  rw[List.mapM_cons,this]
  rfl
theorem qQ (hs:MJ σ st.own M) {q:Bool} {v:AV} {K:AV->Prop} (h:U4 q M ban v K) : ∃ v',snap (st.own.hide ban) q 6 (BD σ v)=some v'/\K v'/\v ≠ .any/\BW σ v=BD σ v/\DI (st.own.hide ban) q (BD σ v)=some v':=by
 have dat:Q7 q M ban v K -> ∃ v',snap (st.own.hide ban) q 6 (BD σ v)=some v'/\K v'/\v ≠ .any/\BW σ v=BD σ v/\DI (st.own.hide ban) q (BD σ v)=some v':=by
  intro h
  obtain ⟨v',h1,h2,h3,h4⟩:=qT hs h
  refine ⟨v',h1 5,h2,h3,h4,?_⟩
  have:=h1 5
  cases v<;>first|exact this|exact (h:False).elim
 unfold U4 at h
 split at h
 ·rename_i key z off len
  split at h
  ·rename_i s z' es hm
   cases hz:Nat.beq z z'<;>simp only[hz,cond_true,cond_false]at h
   cases hb:PI s ban<;>simp only[hb,cond_true,cond_false]at h
   cases ho:Nat.beq off 0<;>simp only[ho,cond_true,cond_false]at h
   obtain rfl:=BP.1 hz
   obtain rfl:=BP.1 ho
   obtain ⟨rfl,h⟩:=h
   obtain ⟨l',h1,h2⟩:=qR hs h
   have hbk:=hs.blk _ _ _ (DU hm)
   rw[hs.site _ _ _ hm]at hbk
   have key:snap (st.own.hide ban) q 6 (BD σ (.row key 0 z 0 es.length))=some (.sl q l'):=by
    simp only[BD,snap,D9,AH.get,hs.site _ _ _ hm]
    rw[SH hb,hbk]
    simp only[BB.blk,Nat.zero_add,List.length_map,Nat.le_refl,and_self,if_true,List.drop_zero]
    rw[List.take_of_length_le (by simp),h1 4]
    rfl
   exact ⟨_,key,h2,(by intro e;cases e),rfl,key⟩
  ·rename_i s rows hm
   split at h
   ·cases hz:Nat.beq z 1<;>simp only[hz,cond_true,cond_false]at h
    obtain rfl:=BP.1 hz
    obtain ⟨rfl,rfl,h1,h2⟩:=h
    have hbk:=hs.blk _ _ _ (DU hm)
    have key:snap (st.own.hide []) q 6 (BD σ (.row key 0 1 0 rows.length))=some (.sl q (PN q rows)):=by
     simp only[BD,snap,D9,AH.get,AH.hide]
     rw[hbk]
     simp only[BB.blk,Nat.zero_add,EY,Nat.le_refl,and_self,if_true,List.drop_zero]
     rw[List.take_of_length_le (by rw[EY];exact Nat.le_refl _),cU (i:=0) fun j z es hj=>⟨by
      have:=hs.blk key (j+1) (.rw z es) (by simp [mref,hm,hj])
      simpa [BB.blk] using this,h1 z es (zM hj)⟩]
     rfl
    exact ⟨_,key,h2,(by intro e;cases e),rfl,key⟩
   ·exact h.elim
  ·exact dat h
 ·exact dat h
theorem qU (hs:MJ σ st.own M) {q:Bool} : ∀ {l:List AV} {K:List AV->Prop},dG q M ban l K -> ∃ l',(l.map (BD σ)).mapM (snap (st.own.hide ban) q 6)=some l'/\K l'
 | [],K,h=>⟨[],rfl,h⟩
 | v::r,K,h=>by
  obtain ⟨v',h1,h2,_⟩:=qQ hs (show U4 q M ban v fun v'=>dG q M ban r fun r'=>K (v'::r') from h)
  obtain ⟨l',h3,h4⟩:=qU hs h2
  refine ⟨v'::l',?_,h4⟩
  rw[List.map_cons,List.mapM_cons,h1,h3];rfl
theorem dE (hs:MJ σ st.own M) {q:Bool} {v:AV} {K:AV->Prop} (h:PP q M ban v K) : ∃ v',DI (st.own.hide ban) q (BJ σ v)=some v'/\K v'/\v ≠ .any/\BJ σ v=BW σ v:=by
 cases v with
 | agg cs =>
  simp only[PP]at h
  obtain ⟨l',h1,h2⟩:=qU hs h
  refine ⟨.agg l',?_,h2,(by intro e;cases e),rfl⟩
  simp only[HF,DI,h1,Option.map_some]
 | tup vs=>exact (h:False).elim
 | fn p f g cs=>exact (h:False).elim
 | any=>exact (h:False).elim
 | _ =>
  simp only[PP]at h
  obtain ⟨v',h1,h2,h3,h4,h5⟩:=qQ hs h
  exact ⟨v',h5,h2,h3,rfl⟩
theorem dI (hr:RX σ tm M st) : ∀ {xs:List AQ} {K:List AV->Prop},XY tm M ban xs K -> ∃ vs,(xs.map st.ev).mapM (DI (st.own.hide ban) true)=some vs/\K vs
 | [],K,h=>⟨[],rfl,h⟩
 | x::r,K,h=>by
  obtain ⟨v',h1,h2,h3,_⟩:=dE hr.sat (show PP true M ban (ex tm x) fun v=>XY tm M ban r fun vs=>K (v::vs) from h)
  obtain ⟨l',h4,h5⟩:=dI hr h2
  refine ⟨v'::l',?_,h5⟩
  rw[List.map_cons,List.mapM_cons,hr.ev rfl h3,h1,h4];rfl
theorem Agx (hs:MJ σ st.own M) {v:AV} {K:AV->Prop} (h:XX M ban v K) : ∃ v',N3 (st.own.hide ban) true (BJ σ v)=some v'/\K v'/\v ≠ .any/\BJ σ v=BW σ v:=by
 cases v with
 | nil=>exact ⟨.nil,rfl,h,(by intro e;cases e),rfl⟩
 | _ =>
  simp only[XX]at h
  obtain ⟨v',h1,h2,h3,h4⟩:=dE hs h
  exact ⟨v',h1,h2,h3,h4⟩
theorem qV (hr:RX σ tm M st) : ∀ {xs:List AQ} {K:List AV->Prop},dH tm M ban xs K -> ∃ vs,(xs.map st.ev).mapM (N3 (st.own.hide ban) true)=some vs/\K vs
 | [],K,h=>⟨[],rfl,h⟩
 | x::r,K,h=>by
  obtain ⟨v',h1,h2,h3,_⟩:=Agx hr.sat (show XX M ban (ex tm x) fun v=>dH tm M ban r fun vs=>K (v::vs) from h)
  obtain ⟨l',h4,h5⟩:=qV hr h2
  refine ⟨v'::l',?_,h5⟩
  rw[List.map_cons,List.mapM_cons,hr.ev rfl h3,h1,h4];rfl
theorem T6 (hr:RX σ tm M st) : ∀ {xs:List AQ} {K:List AV->Prop},R5 tm xs K -> ∃ vs,xs.map st.ev=vs.map (BJ σ)/\K vs
 | [],K,h=>⟨[],rfl,h⟩
 | x::r,K,h=>by
  obtain ⟨h1,h2⟩:=WW (show fV (ex tm x) fun v=>R5 tm r fun vs=>K (v::vs) from h)
  obtain ⟨vs,h3,h4⟩:=T6 hr h2
  exact ⟨ex tm x::vs,by rw[List.map_cons,List.map_cons,hr.ev rfl h1,h3],h4⟩
theorem gN {v:AV} (h:A9 v):BD σ v=v:=by
 cases v<;>first|rfl|(simp only[A9]at h)
theorem gL : ∀ {l:List AV},CY l->l.map (BD σ)=l
 | [],_=>rfl
 | v::r,h=>by
  simp only[CY]at h
  rw[List.map_cons,gN h.1,gL h.2]
theorem gO {v:AV} (h:A9 v):BW σ v=v:=by
 cases v with
 | agg cs=>simp only[A9]at h;simp only[BW,gL h]
 | fn p f g cs=>simp only[A9]at h
 | _=>exact gN (σ:=σ) h
theorem gM : ∀ {l:List AV},CY l->l.map (BW σ)=l
 | [],_=>rfl
 | v::r,h=>by
  simp only[CY]at h
  rw[List.map_cons,gO h.1,gM h.2]
theorem gP {v:AV} (h:A9 v):BJ σ v=v:=by
 cases v with
 | tup cs=>simp only[A9]at h;simp only[BJ,gM h]
 | _=>exact gO (σ:=σ) h
theorem pG {I:List AV->Option (AV × AH)} {vs:List AV} {r:AV} (h:H4 I vs=some r):A9 r:=by
 unfold H4 at h
 split at h
 ·split at h
  ·split at h
   ·obtain rfl:=Option.some.inj h
    assumption
   ·cases h
  ·cases h
 ·cases h
theorem Ev.clean {f:Nat} {vs:List AV} {r:AV} (h:Ev L f vs r):A9 r:=by
 obtain ⟨n,h⟩:=h
 unfold HL MT at h
 split at h
 ·split at h
  ·rename_i r1 r2 h1 h2
   split at h
   ·obtain rfl:=Option.some.inj h
    exact pG h1
   ·cases h
  ·cases h
 ·exact pG h
theorem RX.put (h:RX σ tm M st) (d:Nat) {v v':AV} (e:v'=BJ σ v):RX σ ((d,v)::tm) M ⟨tput st.tm d v',st.own⟩:=by
 refine ⟨fun j => ?_,h.sat⟩
 simp only[tg,VG]
 cases hb:Nat.beq j d
 ·rw[if_neg (FA.1 hb)];exact h.tm j
 ·rw[if_pos (BP.1 hb)];exact Or.inr e
theorem oT : ∀ {cs:List AV},UR cs=true->cs.map (BJ σ)=cs.map (BD σ)
 | [],_=>rfl
 | v::r,h=>by
  simp only[UR]at h
  cases hv:cE v<;>simp only[hv,cond_true,cond_false]at h
  ·cases h
  ·rw[List.map_cons,List.map_cons,oT h]
   cases v<;>first|rfl|(simp [cE]at hv)
theorem Aav {v:AV} (h:GS v=true):BD σ v=v:=by cases v<;>first|rfl|(simp [GS]at h)
theorem jH : ∀ {cs:List AV},cs.all GS=true->cs.map (BD σ)=cs
 | [],_=>rfl
 | c::r,h=>by
  simp only[List.all_cons,Bool.and_eq_true]at h
  rw[List.map_cons,Aav h.1,jH h.2]
theorem jI : ∀ {vs:List AV},vs.all dq=true->vs.map (BJ σ)=vs
 | [],_=>rfl
 | v::r,h=>by
  simp only[List.all_cons,Bool.and_eq_true]at h
  rw[List.map_cons,jI h.2]
  congr 1
  cases v with
  | agg cs=>simp only[BJ,BW,jH (show cs.all GS=true from h.1)]
  | _=>first|rfl|(simp [dq,GS]at h)
theorem Ac7 {r:AV} (hc:A9 r) (hf:S5 r):BJ σ (lnd r)=lnd r:=by
 cases r with
 | agg cs =>
  simp only[lnd,BJ,BW]
  congr 1
  rw[List.map_map]
  refine List.map_congr_left fun c hcm => ?_
  have:=hf c hcm
  cases c<;>first|rfl|exact this.elim
 | _=>first|rfl|exact hf.elim
theorem mP : ∀ {l:List AV},WZ l=true->l.map (BJ σ)=l
 | [],_=>rfl
 | .int _ _::r,h=>by
  rw[List.map_cons,mP (l:=r) h];rfl
theorem vR {K:AV->Mem->Prop} (hr:RX σ tm M st) {op:D7} (h:XE L tm M ban K op):BS L tm ban K op st\/(∃ f xs,op = .call f xs)\/(∃ f xs,op = .calli f xs)\/(∃ x xs,op = .callv x xs)\/(∃ f xs,op = .callq f xs)\/(∃ s f xs,op = .callr s f xs) \/ ∃ s f xs,op = .cals s f xs:=by
 cases op with
 | call f xs=>exact Or.inr (Or.inl ⟨_,_,rfl⟩)
 | calli f xs=>exact Or.inr (Or.inr (Or.inl ⟨_,_,rfl⟩))
 | callv x xs=>exact Or.inr (Or.inr (Or.inr (Or.inl ⟨_,_,rfl⟩)))
 | callq f xs=>exact Or.inr (Or.inr (Or.inr (Or.inr (Or.inl ⟨_,_,rfl⟩))))
 | callr s f xs=>exact Or.inr (Or.inr (Or.inr (Or.inr (Or.inr (Or.inl ⟨_,_,_,rfl⟩)))))
 | cals s f xs=>exact Or.inr (Or.inr (Or.inr (Or.inr (Or.inr (Or.inr ⟨_,_,_,rfl⟩)))))
 | sto s n x v=>exact Or.inl (wF hr h)
 | appo s z b x y=>exact Or.inl (vE hr h)
 | isn ne x=>exact Or.inl (vU hr h)
 | bad=>exact (show False from h).elim
 | nck x=>exact Or.inl (wB hr h)
 | capn x=>exact Or.inl (vL hr h)
 | apz s z b x y=>exact Or.inl (vF hr h)
 | apd s z b x y=>exact Or.inl (vB hr h)
 | sidx tb x=>exact Or.inl (wD hr h)
 | mkf p f xs=>exact Or.inl (vY hr h)
 | mov x=>exact Or.inl (wA hr h)
 | vrow s z=>exact Or.inl (wH hr h)
 | pick c a b=>exact Or.inl (wC hr h)
 | bin o x y=>exact Or.inl (vH hr h)
 | beq ne x y=>exact Or.inl (vG hr h)
 | aeq ne n x y=>exact Or.inl (uZ hr h)
 | un o x=>exact Or.inl (wG hr h)
 | conv k x=>exact Or.inl (vM hr h)
 | box s x=>exact Or.inl (vI hr h)
 | alloc s z=>exact Or.inl (vA hr h)
 | build z ps=>exact Or.inl (vK hr h)
 | bslice s z ps=>exact Or.inl (vJ hr h)
 | fadr x o=>exact Or.inl (vP hr h)
 | fld x o n a=>exact Or.inl (vQ hr h)
 | iadr a z x i=>exact Or.inl (vS hr h)
 | idx l z a x i=>exact Or.inl (vT hr h)
 | ld a n x=>exact Or.inl (vV hr h)
 | st n x v=>exact Or.inl (fD hr h)
 | mk s z b ze l c=>exact Or.inl (vX hr h)
 | slc z x lo hi=>exact Or.inl (wE hr h)
 | ext x i=>exact Or.inl (vO hr h)
 | len x=>exact Or.inl (vW hr h)
 | mm m xs=>exact Or.inl (vZ hr h)
 | app s z b x y=>exact Or.inl (vC hr h)
 | cpy z x y=>exact Or.inl (vN hr h)
theorem YQ {K:AV->Mem->Prop} (hr:RX σ tm M st) {op:D7} {d:Option Nat} {g:Option (Nat × Bool)} {l:List AI} {k:List It} {Q:St->Prop} (h:XE L tm M ban K op) (hg:FF st g=some true)
  (hk : ∀ σ' v v' M' own',K v M'->v'=BJ σ' v->RX σ' tm M' ⟨st.tm,own'⟩->AO L l k ⟨((⟨st.tm,own'⟩:St).dst d v').tm,own'⟩ Q):AO L (⟨d,op,g,ban⟩::l) k st Q:=by
 rcases vR hr h with ⟨E,σ',v,M',h1,h2,h3,h4⟩|⟨f,xs,rfl⟩|⟨f,xs,rfl⟩|⟨x,xs,rfl⟩|⟨f,xs,rfl⟩|⟨s,f,xs,rfl⟩|⟨s,f,xs,rfl⟩
 ·rw[tS hg h1,YU]
  have:=hk σ' v _ M' _ h2 h3 h4
  cases d<;>exact this
 ·simp only[XE]at h
  obtain ⟨vs,h1,r,h2,h3⟩:=dI hr h
  rw[tJ hg h1 h2]
  have:=hk σ r r M st.own h3 (gP h2.clean).symm hr
  cases d<;>exact this
 ·simp only[XE]at h
  obtain ⟨vs,h1,h2⟩:=T6 hr h
  obtain ⟨r,own',σ',M',h3,h4,h5,h6⟩:=h2 σ st.own hr.sat
  rw[<-h1]at h3
  rw[tK hg h3]
  have:=hk σ' r _ M' own' h6 rfl ⟨fun j=>by rw[h5 j];exact hr.tm j,h4⟩
  cases d<;>exact this
 ·simp only[XE]at h
  split at h
  ·rename_i f g' e1
   obtain ⟨h0,h⟩:=h
   obtain ⟨vs,h1,r,h2,h3⟩:=dI hr h
   have e2:=hr.ev e1 (by intro e;cases e)
   rw[cX,List.map_nil,h0]at e2
   rw[tL hg e2 h1 h2]
   have:=hk σ r r M st.own h3 (gP h2.clean).symm hr
   cases d<;>exact this
  ·rename_i f g' cs e1
   cases ho:UR cs<;>simp only[ho,cond_true,cond_false]at h
   obtain ⟨h0,h⟩:=h
   obtain ⟨vs,h1,h2⟩:=T6 hr h
   rw[GT]at h2
   obtain ⟨r,own',σ',M',h3,h4,h5,h6⟩:=h2 σ st.own hr.sat
   rw[List.map_append,<-h1,oT (σ:=σ) ho]at h3
   have e2:=hr.ev e1 (by intro e;cases e)
   rw[cX,h0]at e2
   rw[tO hg e2 h3]
   have:=hk σ' r _ M' own' h6 rfl ⟨fun j=>by rw[h5 j];exact hr.tm j,h4⟩
   cases d<;>exact this
  ·exact h.elim
 ·simp only[XE]at h
  obtain ⟨vs,h1,h2⟩:=T6 hr h
  cases ho:vs.all dq<;>simp only[ho,cond_true,cond_false]at h2
  obtain ⟨r,h3,h4,h5⟩:=h2
  have e1:xs.map st.ev=vs:=by rw[h1];exact jI ho
  rw[tM hg (by rw[e1];exact ho) (by rw[e1];exact h3) h4]
  have:=hk σ (lnd r) (lnd r) M st.own h5 (Ac7 h3.clean h4).symm hr
  cases d<;>exact this
 ·simp only[XE]at h
  cases hlow:EO s<;>simp only[hlow,cond_true,cond_false]at h
  obtain ⟨vs,h1,z,es,n,h2,rfl,h3⟩:=qV hr h
  obtain ⟨k',g1,g2,g3⟩:=G2 h3
  refine tN hg h1 h2 ?_
  rw[YU]
  have:=hk (C2 σ k' fun _=>(s,st.own.cnt s)) _ (.row s (st.own.cnt s) z 0 es.length) _ _ g3 (by simp only[C9,BT]) (hr.newq (q:=s) g1 g2 (.rw z es) trivial rfl (fun _=>hlow))
  cases d<;>exact this
 ·simp only[XE]at h
  obtain ⟨vs,h1,h2⟩:=T6 hr h
  split at h2
  ·rename_i key rest
   cases hi:WZ rest<;>simp only[hi,cond_true,cond_false]at h2
   obtain ⟨cells,cells',kd,n,g1,g2,g3,g4,g5⟩:=h2
   have hsite:=hr.sat.site _ _ _ g1
   have hbk:=hr.sat.blk _ _ _ (DU g1)
   rw[hsite]at hbk
   simp only[BB.blk,IO g2]at hbk
   have hev:xs.map st.ev = .ptr s (σ key 0).2 0 0::rest:=by
    rw[h1,List.map_cons,DZ,hsite,mP hi]
   have hE:=g4 (σ key 0).2 (st.own s) hbk
   refine tP hg (by rw[hev];exact hE) ?_
   rw[YU]
   have:=hk σ (.int kd n) (.int kd n) _ _ g5 rfl (hr.stq g1 trivial (.bx cells') trivial (fun h=>by cases h))
   simp only[BB.blk,IO g3]at this
   cases d<;>exact this
  ·exact h2.elim
theorem AbU (hr:RX σ tm M st) {g:Nat} {w:Bool} {b:Bool} (e:tg tm g = .bool b):FF st (some (g,w))=some (b == w):=by
 rcases hr.tm g with h|h
 ·rw[e]at h;cases h
 ·rw[e]at h
  simp only[FF,h,GL]
theorem AbV (hr:RX σ tm M st) {g:Nat} {w:Bool} (e:tg tm g = .tup []):FF st (some (g,w))=some false:=by
 rcases hr.tm g with h|h
 ·rw[e]at h;cases h
 ·rw[e]at h
  simp only[FF,h,HS,List.map_nil]
theorem dQ {key:Nat} : ∀ (tm:Tm) (j:Nat),tg (tcl key tm) j = .any\/tg (tcl key tm) j=tg tm j
 | [],_=>Or.inl rfl
 | (i,v)::r,j=>by
  simp only[tcl]
  cases hc:O7 key v<;>cases hb:Nat.beq j i
  all_goals simp only[cond_true,cond_false,tg,hb]
  ·exact dQ r j
  ·exact Or.inr trivial
  ·exact dQ r j
  ·exact Or.inl trivial
theorem Aha {v:AV} {K:Tm->Prop} (h:xk v tm K) : ∃ tm',(∀ j,tg tm' j = .any\/tg tm' j=tg tm j)/\K tm':=by
 unfold xk at h
 split at h
 ·rw[R7]at h
  exact ⟨_,fun j=>dQ _ j,h⟩
 ·exact ⟨_,fun j=>Or.inr rfl,h⟩
theorem fE {k:List It} {Q:Tm->Mem->Prop} : ∀ {l:List AI} {K:Tm->Mem->Prop} {tm:Tm} {M:Mem},XO L l K tm M->(∀ tm' M',K tm' M'->AA L k tm' M' Q)->eC L l k tm M Q
 | [],K,tm,M,h,hk=>fun σ st hr=>tQ.2 (hk tm M h σ st hr)
 | o::l,K,tm,M,h,hk=>by
  intro σ st hr
  have h:XI L o (XO L l) K tm M:=h
  have ih : ∀ tm' M',XO L l K tm' M'->eC L l k tm' M' Q:=fun tm' M' h'=>fE h' hk
  have some_ : ∀ (d:Nat) (op:D7) (g:Option (Nat × Bool)) (ban:List Nat),FF st g=some true->XE L tm M ban (fun v M=>XO L l K ((d,v)::tm) M) op->AO L (⟨some d,op,g,ban⟩::l) k st (SQ Q):=by
   intro d op g ban hg hx
   refine YQ hr hx hg ?_
   intro σ' v v' M' own' h1 h2 h3
   exact ih _ _ h1 σ' _ (h3.put d h2)
  have somek_ : ∀ (d:Nat) (u:AV) (op:D7) (ban:List Nat),XE L tm M ban (fun v M=>xk u tm fun tm=>XO L l K ((d,v)::tm) M) op->AO L (⟨some d,op,none,ban⟩::l) k st (SQ Q):=by
   intro d u op ban hx
   refine YQ hr hx rfl ?_
   intro σ' v v' M' own' h1 h2 h3
   obtain ⟨tm',g1,g2⟩:=Aha h1
   exact ih _ _ g2 σ' _ ((show RX σ' tm' M' ⟨st.tm,own'⟩ from ⟨fun j=>(g1 j).elim Or.inl fun e=>by rw[e];exact h3.tm j,h3.sat⟩).put d h2)
  have none_ : ∀ (op:D7) (g:Option (Nat × Bool)) (ban:List Nat),FF st g=some true->XE L tm M ban (fun _ M=>XO L l K tm M) op->AO L (⟨none,op,g,ban⟩::l) k st (SQ Q):=by
   intro op g ban hg hx
   refine YQ hr hx hg ?_
   intro σ' v v' M' own' h1 h2 h3
   exact ih _ _ h1 σ' _ h3
  have skip_ : ∀ (d:Option Nat) (op:D7) (g:Option (Nat × Bool)) (ban:List Nat),FF st g=some false->(match d with|some d=>XO L l K ((d,.tup [])::tm) M|none=>XO L l K tm M)->AO L (⟨d,op,g,ban⟩::l) k st (SQ Q):=by
   intro d op g ban hg hx
   rw[tR hg]
   cases d with
   | none=>exact ih _ _ hx σ _ hr
   | some d=>exact ih _ _ hx σ _ (hr.put d rfl)
  obtain ⟨d,op,g,ban⟩:=o
  cases g with
  | none =>
   cases d with
   | none=>exact none_ op none ban rfl h
   | some d =>
    cases op with
    | app s z b x y=>exact somek_ d (ex tm x) (.app s z b x y) ban h
    | _=>exact some_ d _ none ban rfl h
  | some gw =>
   obtain ⟨g,w⟩:=gw
   have h:(match tg tm g with
    | .bool b=>fB (b == w) fun c=>match c,d with
     | true,some d=>XE L tm M ban (fun v M=>XO L l K ((d,v)::tm) M) op
     | true,none=>XE L tm M ban (fun _ M=>XO L l K tm M) op
     | false,some d=>XO L l K ((d,.tup [])::tm) M
     | false,none=>XO L l K tm M
    | .tup []=>match d with
     | some d=>XO L l K ((d,.tup [])::tm) M
     | none=>XO L l K tm M
    | _=>False):=by cases d<;>cases op<;>exact h
   split at h
   ·rename_i b e
    rw[OL]at h
    have hg:=AbU hr (w:=w) e
    cases hb:(b == w)<;>rw[hb]at h hg
    ·exact skip_ d op _ ban hg (by cases d<;>exact h)
    ·cases d with
     | none=>exact none_ op _ ban hg h
     | some d=>exact some_ d op _ ban hg h
   ·rename_i e
    exact skip_ d op _ ban (AbV hr e) (by cases d<;>exact h)
   ·exact h.elim
theorem YR {Q:Tm->Mem->Prop} : ∀ {n:Nat} {k:List It} {tm:Tm} {M:Mem},XK L Q n k tm M->AA L k tm M Q
 | 0,k,tm,M,h=>h
 | n+1,[],tm,M,h=>fun σ st hr=>tC.2 ⟨σ,tm,M,hr,h⟩
 | n+1,it::k,tm,M,h=>by
  have h:XS L Q (XK L Q n) (it::k) tm M:=h
  have ih : ∀ k tm M,XK L Q n k tm M->AA L k tm M Q:=fun k tm M h=>YR h
  intro σ st hr
  cases it with
  | blk id=>exact sS.2 (ih _ _ _ h σ st hr)
  | drp ts ss =>
   simp only[XS,AbM,R7]at h
   cases ss with
   | cons s r=>exact h.elim
   | nil =>
    refine sW.2 (ih _ _ _ h σ _ ⟨fun j => ?_,hr.sat⟩)
    rw[VD,ST,fU,YY,Bool.false_or]
    cases hc:ts.contains j
    ·simp only[Bool.false_eq_true,if_false,cond_false]
     exact hr.tm j
    ·exact Or.inl rfl
  | lp c=>exact h σ st hr
  | code c =>
   cases c with
   | skip=>exact tH.2 (ih _ _ _ h σ st hr)
   | ops l d=>exact tD.2 (fE h (fun tm' M' h'=>ih _ _ _ h') σ st hr)
   | dr c ts ss=>exact sV.2 (ih _ _ _ h σ st hr)
   | scope c=>exact tF.2 (ih _ _ _ h σ st hr)
   | seq a b=>exact tG.2 (ih _ _ _ h σ st hr)
   | cond x a b =>
    simp only[XS]at h
    split at h
    ·rename_i b' e
     rw[OL]at h
     rw[sU (hr.ev e (by intro e;cases e))]
     cases b'
     ·simpa using ih _ _ _ h σ st hr
     ·simpa using ih _ _ _ h σ st hr
    ·exact h.elim
   | block id c=>exact sT.2 (ih _ _ _ h σ st hr)
   | loop c=>exact sY.2 (eB.1 (h σ st hr))
   | exit id =>
    simp only[XS]at h
    split at h
    ·rename_i k' e
     exact (sX e).2 (ih _ _ _ h σ st hr)
    ·exact h.elim
   | ret=>exact tE.2 ⟨σ,tm,M,hr,h⟩
theorem Af8 (hr:RX σ tm M st) {r:I4} {K:AV->Prop} (h:U0 tm M r K) : ∃ v,E0 st r=some (BJ σ v)/\K v/\BJ σ v=BW σ v:=by
 cases r with
 | tmp t =>
  simp only[U0]at h
  obtain ⟨h1,h2,h3⟩:=lJ (σ:=σ) h
  refine ⟨_,?_,h3,h2⟩
  rcases hr.tm t with e|e
  ·exact absurd e h1
  ·simp only[E0,e]
   cases hv:tg tm t<;>rw[hv]at h h1<;>first|rfl|exact (h:False).elim
 | cell t agg n =>
  simp only[U0]at h
  split at h
  ·rename_i key i j e
   split at h
   ·rename_i s cs hm
    cases hi:Nat.beq i 0<;>simp only[hi,cond_true,cond_false]at h
    obtain rfl:=BP.1 hi
    split at h
    ·rename_i ds hp
     rw[GT]at h
     rcases hr.tm t with e'|e'
     ·rw[e]at e';cases e'
     ·have hs:=hr.sat.site _ _ _ hm
      have hbk:=hr.sat.blk _ _ _ (DU hm)
      rw[hs]at hbk
      have flat : ∀ v,IY agg (ds.map (BD σ))=some (BJ σ v)->E0 st (.cell t agg n)=some (BJ σ v):=by
       intro v hv
       simp only[E0,e',e,DZ,AH.ldp,AH.get,hs,hbk,BB.blk,List.getElem?_cons_zero,UU hp,hv]
      cases agg
      ·simp only[ofc]at h
       split at h
       ·rename_i c
        obtain ⟨_,h1,h2⟩:=lK (σ:=σ) h
        refine ⟨c,flat c (by rw[h1];rfl),h2,?_⟩
        rw[h1]
        cases c<;>first|rfl|exact (h:False).elim
       ·exact h.elim
      ·exact ⟨.agg ds,flat _ rfl,h,rfl⟩
    ·exact h.elim
   ·exact h.elim
  ·exact h.elim
theorem cR (hr:RX σ tm M st) : ∀ {l:List I4} {K:List AV->Prop},XL tm M l K -> ∃ vs,l.mapM (E0 st)=some (vs.map (BJ σ))/\K vs/\vs.map (BJ σ)=vs.map (BW σ)
 | [],K,h=>⟨[],rfl,h,rfl⟩
 | r::l,K,h=>by
  obtain ⟨v,h1,h2,h3⟩:=Af8 hr (show U0 tm M r fun v=>XL tm M l fun vs=>K (v::vs) from h)
  obtain ⟨vs,h4,h5,h6⟩:=cR hr h2
  exact ⟨v::vs,by rw[List.mapM_cons,h1,h4];rfl,h5,by rw[List.map_cons,List.map_cons,h3,h6]⟩
theorem qP (hs:MJ σ st.own M) {q:Bool} : ∀ {l:List AV} {K:List AV->Prop},dD q M l K -> ∃ l',(l.map (BJ σ)).mapM (DI st.own q)=some l'/\K l' /\ ∀ v∈l,BJ σ v=BW σ v
 | [],K,h=>⟨[],rfl,h,fun v hv=>by cases hv⟩
 | v::r,K,h=>by
  obtain ⟨v',h1,h2,_,h0⟩:=dE hs (show PP q M [] v fun v'=>dD q M r fun r'=>K (v'::r') from h)
  obtain ⟨l',h3,h4,h5⟩:=qP hs h2
  refine ⟨v'::l',?_,h4,fun u hu => ?_⟩
  ·rw[List.map_cons,List.mapM_cons,show DI st.own q (BJ σ v)=some v' from h1,h3];rfl
  ·rcases List.mem_cons.1 hu with rfl|hu
   ·exact h0
   ·exact h5 u hu
theorem AgA {own:AH} {q:Bool} {v v':AV} (h:DI own q v=some v'):PQ own q v=some v':=by
 cases v with
 | tup vs=>simp [DI,snap]at h
 | _=>exact h
theorem Adb {f:AV->Option AV} {x y:AV} {r l':List AV} (h:(x::y::r).mapM f=some l') : ∃ a b c,l'=a::b::c:=by
 rw[List.mapM_cons,List.mapM_cons]at h
 cases hx:f x with
 | none=>rw[hx]at h;cases h
 | some a =>
  cases hy:f y with
  | none=>rw[hx,hy]at h;cases h
  | some b =>
   cases hr:r.mapM f with
   | none=>rw[hx,hy,hr]at h;cases h
   | some c =>
    rw[hx,hy,hr]at h
    exact ⟨a,b,c,(Option.some.inj h).symm⟩
theorem fA {fn:AFn} {r:AV} (hr:RX σ tm M st) (h:O5 fn r tm M):TB fn r st:=by
 unfold O5 at h
 obtain ⟨vs,h1,h2,h3⟩:=cR hr h
 obtain ⟨l',h4,h5,h6⟩:=qP hr.sat h2
 unfold TB
 rw[h1,Option.map_some,Option.bind_some]
 match vs,l',h4,h5 with
 | [],l',h4,h5 =>
  obtain rfl:=Option.some.inj h4
  obtain ⟨e,hc⟩:=h5
  exact ⟨by rw[<-e];rfl,hc⟩
 | [v],l',h4,h5 =>
  rw[List.map_cons,List.map_nil,List.mapM_cons]at h4
  cases hv:DI st.own false (BJ σ v) with
  | none=>rw[hv]at h4;cases h4
  | some v' =>
   rw[hv]at h4
   obtain rfl:=Option.some.inj h4
   obtain ⟨e,hc⟩:=h5
   exact ⟨by rw[<-e];exact AgA hv,hc⟩
 | v::u::w,l',h4,h5 =>
  obtain ⟨a,b,c,rfl⟩:=Adb (show List.mapM (DI st.own false) (BJ σ v::BJ σ u::w.map (BJ σ))=some l' from h4)
  obtain ⟨e,hc⟩:=h5
  refine ⟨?_,hc⟩
  rw[<-e]
  have h4:List.mapM (DI st.own false) (BJ σ v::BJ σ u::w.map (BJ σ))=some (a::b::c):=h4
  show Option.map AV.tup (List.mapM (DI st.own false) (BJ σ v::BJ σ u::w.map (BJ σ)))=_
  rw[h4];rfl
def O9:AV->Bool
 | .agg cs=>D4 cs
 | v=>dat v
def ML:List AV->Bool
 | []=>true
 | v::r=>bif O9 v then ML r else false
theorem WL {v:AV} (h:O9 v=true):BJ σ v=v:=by
 cases v with
 | agg cs=>simp only[O9]at h;simp only[BJ,BW,IO h]
 | _=>first|rfl|cases h
theorem TN {σ:FJ} : ∀ {vs:List AV} {i:Nat},ML vs=true -> ∀ j,tget (CZ i vs) j=BJ σ (tget (CZ i vs) j)
 | [],_,_,_=>rfl
 | v::r,i,h,j=>by
  simp only[ML]at h
  cases hv:O9 v<;>simp only[hv,cond_true,cond_false]at h
  ·cases h
  ·simp only[Acp,VF]
   split
   ·exact (WL hv).symm
   ·exact TN h j
theorem FI.x {f:Nat} {fn:AFn} {vs:List AV} {r:AV} (hL:L f=some fn) (hp:Nat.beq vs.length fn.pars=true) (hd:ML vs=true) (h:AA L [.code fn.body] (CZ 0 vs) [] (O5 fn r)):FI L f vs r:=by
 refine FI.fwd hL (BP.1 hp) (sZ (h (fun _ _=>(0,0)) ⟨CZ 0 vs,AH.emp⟩ ⟨fun j=>Or.inr ?_,?_⟩) ?_)
 ·rw[L7];exact TN hd j
 ·exact ⟨(fun _ _ _ e=>by cases e),(fun _ _ _ e=>by simp [mref,mget]at e),(fun _ _ _ e=>by simp [mref,mget]at e),(fun _ _ _ _ _ _ e=>by simp [mref,mget]at e),(fun _ _ _ e=>by simp [mref,mget]at e)⟩
 ·rintro s ⟨σ,tm,M,hr,hq⟩
  exact fA hr hq
theorem Ev.x {f:Nat} {fn:AFn} {vs:List AV} {r:AV} (hL:L f=some fn) (hp:Nat.beq vs.length fn.pars=true) (hd:ML vs=true) (h:AA L [.code fn.body] (CZ 0 vs) [] (O5 fn r)) (hs:fn.spl=false:=by rfl):Ev L f vs r:=(FI.x hL hp hd h).ev hL hs
def FL:List (Nat × Nat)->Nat->Nat
 | [],k=>k
 | (a,b)::r,k=>bif Nat.beq k a then b else FL r k
def XP (τ:List (Nat × Nat)):AV->AV
 | .row k t z o n => .row (FL τ k) t z o n
 | .ptr k t i j => .ptr (FL τ k) t i j
 | v=>v
def PL (τ:List (Nat × Nat)):List AV->List AV
 | []=>[]
 | v::r=>XP τ v::PL τ r
def SR (τ:List (Nat × Nat)):AV->AV
 | .agg cs => .agg (PL τ cs)
 | .fn p f g cs => .fn p f g (PL τ cs)
 | v=>XP τ v
def XR (τ:List (Nat × Nat)):List AV->List AV
 | []=>[]
 | v::r=>SR τ v::XR τ r
def XQ (τ:List (Nat × Nat)):AV->AV
 | .tup cs => .tup (XR τ cs)
 | v=>SR τ v
def XT (τ:List (Nat × Nat)):List (List AV)->List (List AV)
 | []=>[]
 | v::r=>PL τ v::XT τ r
def L1 (τ:List (Nat × Nat)):BB->BB
 | .bx cs => .bx (PL τ cs)
 | .rw z es => .rw z es
 | .bs z es => .bs z (XT τ es)
 | .mx rows => .mx rows
 | .hx i v rows => .hx i v rows
 | .vw w rows => .vw w rows
variable {τ:List (Nat × Nat)}
theorem U1 : ∀ l:List AV,PL τ l=l.map (XP τ)
 | []=>rfl
 | v::r=>by rw[PL,U1 r];rfl
theorem pR : ∀ l:List AV,XR τ l=l.map (SR τ)
 | []=>rfl
 | v::r=>by rw[XR,pR r];rfl
theorem X1 (v:AV):BD (fun k t=>σ (FL τ k) t) v=BD σ (XP τ v):=by cases v<;>rfl
theorem dN (v:AV):BW (fun k t=>σ (FL τ k) t) v=BW σ (SR τ v):=by
 cases v with
 | agg cs=>simp only[BW,SR,U1,List.map_map];exact congrArg AV.agg (List.map_congr_left fun v _=>X1 v)
 | fn p f g cs=>simp only[BW,SR,U1,List.map_map];exact congrArg (AV.fn p f g) (List.map_congr_left fun v _=>X1 v)
 | _=>rfl
theorem AgC (v:AV):BJ (fun k t=>σ (FL τ k) t) v=BJ σ (XQ τ v):=by
 cases v with
 | tup cs=>simp only[BJ,XQ,pR,List.map_map];exact congrArg AV.tup (List.map_congr_left fun v _=>dN v)
 | agg cs=>exact dN (.agg cs)
 | fn p f g cs=>exact dN (.fn p f g cs)
 | _=>rfl
theorem pS : ∀ l:List (List AV),XT τ l=l.map (PL τ)
 | []=>rfl
 | v::r=>by rw[XT,pS r];rfl
theorem UM {k:Nat} : ∀ (rows:List (Option (Nat × List (List AV)))) (i:Nat),CG (fun k t=>σ (FL τ k) t) k i rows=CG σ (FL τ k) i rows
 | [],i=>rfl
 | none::r,i=>by rw[CG,CG,UM r]
 | some (z,es)::r,i=>by rw[CG,CG,UM r]
theorem xA (c:BB) (k:Nat):c.blk (fun k t=>σ (FL τ k) t) k=(L1 τ c).blk σ (FL τ k):=by
 cases c with
 | bx cs =>
  simp only[BB.blk,L1,U1,List.length_map,List.map_map]
  rw[List.map_congr_left fun v _=>X1 v];rfl
 | rw z es=>rfl
 | bs z es =>
  simp only[BB.blk,L1,pS,List.map_map]
  congr 1
  refine List.map_congr_left fun cs _ => ?_
  simp only[Function.comp,U1,List.map_map]
  exact List.map_congr_left fun v _=>X1 v
 | mx rows=>simp only[BB.blk,L1,UM]
 | hx i v rows=>simp only[BB.blk,L1,UM]
 | vw w rows=>simp only[BB.blk,L1,UM]
def mput (k s:Nat) (c:BB):Mem->Mem
 | []=>[(k,s,c)]
 | (j,s',c')::r=>bif Nat.beq k j then (k,s,c)::r else (j,s',c')::mput k s c r
def mcan:Mem->Mem
 | []=>[]
 | (k,s,c)::r=>mput k s c (mcan r)
theorem nP (k s:Nat) (c:BB) (j:Nat) : ∀ M:Mem,mget (mput k s c M) j=bif Nat.beq j k then some (s,c) else mget M j
 | []=>rfl
 | (i,s',c')::r=>by
  simp only[mput]
  cases hk:Nat.beq k i
  ·simp only[cond_false,mget,nP k s c j r]
   cases hj:Nat.beq j i<;>cases hjk:Nat.beq j k<;>simp only[cond_true,cond_false]
   exact absurd ((BP.1 hjk).symm.trans (BP.1 hj)) (FA.1 hk)
  ·obtain rfl:=BP.1 hk
   simp only[cond_true,mget]
   cases Nat.beq j k<;>rfl
theorem SE (j:Nat) : ∀ M:Mem,mget (mcan M) j=mget M j
 | []=>rfl
 | (k,s,c)::r=>by simp only[mcan,nP,SE j r,mget]
theorem W6 (k t:Nat):mref (mcan M) k t=mref M k t:=by simp only[mref,SE]
def memt (τ:List (Nat × Nat)) (M:Mem):List (Nat × Nat × BB)->List (Option (Nat × BB))
 | []=>[]
 | (k,_,_)::r=>mget M (FL τ k)::memt τ M r
def memw (τ:List (Nat × Nat)):List (Nat × Nat × BB)->List (Option (Nat × BB))
 | []=>[]
 | (_,s,c)::r=>some (s,L1 τ c)::memw τ r
def tmt (tm:Tm):Tm->List AV
 | []=>[]
 | (j,_)::r=>tg tm j::tmt tm r
def tmw (τ:List (Nat × Nat)):Tm->List AV
 | []=>[]
 | (_,v)::r=>XQ τ v::tmw τ r
def XA:List Nat->Bool
 | []=>true
 | k::r=>bif OO k r then false else XA r
def keys (τ:List (Nat × Nat)):Mem->List Nat
 | []=>[]
 | (k,_,_)::r=>FL τ k::keys τ r
theorem nO : ∀ {M':Mem} {M:Mem},memt τ M M'=memw τ M' -> ∀ k s c,mget M' k=some (s,c)->mget M (FL τ k)=some (s,L1 τ c)
 | [],_,_,_,_,_,e=>by cases e
 | (i,s',c')::r,M,h,k,s,c,e=>by
  simp only[memt,memw,List.cons.injEq]at h
  simp only[mget]at e
  cases hb:Nat.beq k i<;>simp only[hb,cond_true,cond_false]at e
  ·exact nO h.2 k s c e
  ·simp only[Option.some.injEq,Prod.mk.injEq]at e
   obtain ⟨rfl,rfl⟩:=e
   rw[BP.1 hb];exact h.1
theorem bM : ∀ {M:Mem} {k s:Nat} {c:BB},mget M k=some (s,c)->OO (FL τ k) (keys τ M)=true
 | (i,s',c')::r,k,s,c,e=>by
  simp only[mget]at e
  simp only[keys,OO]
  cases hb:Nat.beq k i<;>simp only[hb,cond_true,cond_false]at e
  ·rw[bM e];cases Nat.beq (FL τ k) (FL τ i)<;>rfl
  ·rw[BP.1 hb];simp
theorem oJ : ∀ {M:Mem},XA (keys τ M)=true -> ∀ {k k' s s':Nat} {c c':BB},mget M k=some (s,c)->mget M k'=some (s',c')->FL τ k=FL τ k'->k=k'
 | [],_,_,_,_,_,_,_,e,_,_=>by cases e
 | (i,s0,c0)::r,h,k,k',s,s',c,c',e,e',hk=>by
  simp only[keys,XA]at h
  cases hm:OO (FL τ i) (keys τ r)<;>simp only[hm,cond_true,cond_false]at h
  ·simp only[mget]at e e'
   cases hb:Nat.beq k i<;>cases hb':Nat.beq k' i<;>simp only[hb,hb',cond_true,cond_false]at e e'
   ·exact oJ h e e' hk
   ·obtain rfl:=BP.1 hb'
    have:=bM (τ:=τ) e
    rw[hk,hm]at this;cases this
   ·obtain rfl:=BP.1 hb
    have:=bM (τ:=τ) e'
    rw[<-hk,hm]at this;cases this
   ·exact (BP.1 hb).trans (BP.1 hb').symm
  ·cases h
theorem rU : ∀ {tm':Tm} {tm:Tm},tmt tm tm'=tmw τ tm' -> ∀ j,tg tm' j = .any\/tg tm j=XQ τ (tg tm' j)
 | [],_,_,_=>Or.inl rfl
 | (i,v)::r,tm,h,j=>by
  simp only[tmt,tmw,List.cons.injEq]at h
  simp only[tg]
  cases hb:Nat.beq j i<;>simp only[cond_true,cond_false]
  ·exact rU h.2 j
  ·rw[BP.1 hb];exact Or.inr h.1
def tdel (ts:List Nat) (tm:Tm):Tm:=match ts with
 | []=>tm
 | t::ts=>cnm (mask 0 (t::ts)) tm
def O2 (τ:List (Nat × Nat)) (tm:Tm) (M:Mem) (tm':Tm) (M':Mem):Prop :=
 fT (cnm 0 tm') fun l=>fM (mcan M') fun m=>tmt tm l=tmw τ l/\memt τ M m=memw τ m/\XA (keys τ m)=true
theorem A4 {k:List It} {tm':Tm} {M':Mem} {Q:Tm->Mem->Prop} (τ:List (Nat × Nat)) (he:O2 τ tm M tm' M') (h:AA L k tm' M' Q):AA L k tm M Q:=by
 unfold O2 at he
 rw[R7,MO]at he
 obtain ⟨ht,hm,hn⟩:=he
 intro σ st hr
 have hg : ∀ k s c,mget M' k=some (s,c)->mget M (FL τ k)=some (s,L1 τ c):=fun k s c e=>nO hm k s c (by rw[SE];exact e)
 have hgr : ∀ k t c,mref M' k t=some c->mref M (FL τ k) t=some (L1 τ c):=by
  intro k t c e
  obtain ⟨s,c0,g1,g2,g3⟩:=G8 e
  have:=hg k s c0 g1
  cases t with
  | zero=>rw[g2 rfl];exact DU this
  | succ i =>
   obtain ⟨rows,z,es,(rfl|⟨a,v,rfl⟩)|⟨w,rfl⟩,hr,rfl⟩:=g3 i rfl
   ·simp [mref,this,L1,hr]
   ·simp [mref,this,L1,hr]
   ·simp [mref,this,L1,hr]
 refine h (fun k t=>σ (FL τ k) t) st ⟨fun j => ?_,⟨?_,?_,?_,?_,?_⟩⟩
 ·have:=rU ht j
  rw[VD,YY,cond_false]at this
  rcases this with e|e
  ·exact Or.inl e
  ·rcases hr.tm j with e'|e'
   ·left
    rw[e']at e
    cases hv:tg tm' j<;>rw[hv]at e<;>first|rfl|cases e
   ·right
    rw[e',e,AgC]
 ·intro k s c e;exact hr.sat.site _ _ _ (hg k s c e)
 ·intro k t c e;rw[xA];exact hr.sat.blk _ _ _ (hgr k t c e)
 ·intro k t c e;exact hr.sat.old _ _ _ (hgr k t c e)
 ·intro k t k' t' c c' e e' hk
  obtain ⟨q1,q2⟩:=hr.sat.inj _ _ _ _ _ _ (hgr _ _ _ e) (hgr _ _ _ e') hk
  obtain ⟨s,c0,g,_⟩:=G8 e
  obtain ⟨s',c0',g',_⟩:=G8 e'
  exact ⟨oJ hn (by rw[SE];exact g) (by rw[SE];exact g') q1,q2⟩
 ·intro k t c e hw
  exact hr.sat.low _ _ _ (hgr k t c e) (by cases c<;>exact hw)
theorem dZ {k:List It} {Q:Tm->Mem->Prop} (h:AA L k (cnm 0 tm) (mcan M) Q):AA L k tm M Q:=by
 intro σ st hr
 refine h σ st ⟨fun j => ?_,⟨?_,?_,?_,?_,?_⟩⟩
 ·rw[VD,YY,cond_false];exact hr.tm j
 ·intro k s c e;rw[SE]at e;exact hr.sat.site _ _ _ e
 ·intro k t c e;rw[W6]at e;exact hr.sat.blk _ _ _ e
 ·intro k t c e;rw[W6]at e;exact hr.sat.old _ _ _ e
 ·intro k t k' t' c c' e e' hk
  rw[W6]at e e'
  exact hr.sat.inj _ _ _ _ _ _ e e' hk
 ·intro k t c e hw;rw[W6]at e;exact hr.sat.low _ _ _ e hw
def mset (k:Nat) (c:BB):Mem->Mem
 | []=>[]
 | (j,s,c')::r=>bif Nat.beq k j then (j,s,c)::r else (j,s,c')::mset k c r
theorem W3 {k j s:Nat} {c c':BB} : ∀ {M:Mem},mget (mset k c M) j=some (s,c') -> ∃ c0,mget M j=some (s,c0)/\(c0=c'\/(j=k/\c'=c))
 | [],e=>by cases e
 | (i,s0,c0)::r,e=>by
  simp only[mset]at e
  cases hk:Nat.beq k i<;>simp only[hk,cond_true,cond_false,mget]at e ⊢
  ·cases hj:Nat.beq j i<;>simp only[hj,cond_true,cond_false]at e ⊢
   ·exact W3 e
   ·exact ⟨c',e,Or.inl rfl⟩
  ·cases hj:Nat.beq j i<;>simp only[hj,cond_true,cond_false]at e ⊢
   ·exact ⟨c',e,Or.inl rfl⟩
   ·simp only[Option.some.injEq,Prod.mk.injEq]at e
    obtain ⟨rfl,rfl⟩:=e
    exact ⟨c0,rfl,Or.inr ⟨(BP.1 hj).trans (BP.1 hk).symm,rfl⟩⟩
theorem VI {kk:List It} {Q:Tm->Mem->Prop} (k s:Nat) (e:mget M k=some (s,.rw 1 [])) (h:AA L kk tm (mset k (.mx []) M) Q):AA L kk tm M Q:=by
 intro σ st hr
 have hg : ∀ j t c,mref (mset k (.mx []) M) j t=some c -> ∃ c0,mref M j t=some c0/\c0.blk σ j=c.blk σ j:=by
  intro j t c g
  obtain ⟨s1,c1,g1,g2,g3⟩:=G8 g
  obtain ⟨c0,q1,q2⟩:=W3 g1
  cases t with
  | zero =>
   rw[g2 rfl]
   rcases q2 with rfl|⟨rfl,rfl⟩
   ·exact ⟨_,DU q1,rfl⟩
   ·rw[e]at q1
    simp only[Option.some.injEq,Prod.mk.injEq]at q1
    obtain ⟨rfl,rfl⟩:=q1
    exact ⟨_,DU e,rfl⟩
  | succ i =>
   obtain ⟨rows,z,es,(rfl|⟨a,v,rfl⟩)|⟨w,rfl⟩,hrr,rfl⟩:=g3 i rfl
   ·rcases q2 with rfl|⟨rfl,h0⟩
    ·exact ⟨.rw z es,by simp [mref,q1,hrr],rfl⟩
    ·obtain rfl:rows=[]:=by simpa using h0
     simp at hrr
   ·rcases q2 with rfl|⟨rfl,h0⟩
    ·exact ⟨.rw z es,by simp [mref,q1,hrr],rfl⟩
    ·cases h0
   ·rcases q2 with rfl|⟨rfl,h0⟩
    ·exact ⟨.rw z es,by simp [mref,q1,hrr],rfl⟩
    ·cases h0
 refine h σ st ⟨hr.tm,⟨?_,?_,?_,?_,?_⟩⟩
 ·intro j s' c g
  obtain ⟨c0,q1,_⟩:=W3 g
  exact hr.sat.site _ _ _ q1
 ·intro j t c g
  obtain ⟨c0,q1,q2⟩:=hg j t c g
  rw[<-q2];exact hr.sat.blk _ _ _ q1
 ·intro j t c g
  obtain ⟨c0,q1,_⟩:=hg j t c g
  exact hr.sat.old _ _ _ q1
 ·intro j t j' t' c c' g g' hj
  obtain ⟨_,q1,_⟩:=hg j t c g
  obtain ⟨_,q2,_⟩:=hg j' t' c' g'
  exact hr.sat.inj _ _ _ _ _ _ q1 q2 hj
 ·intro j t c g hw
  cases t with
  | zero =>
   obtain ⟨s1,c1,g1,g2,g3⟩:=G8 g
   obtain ⟨c0,q1,q2⟩:=W3 g1
   have g2:=g2 rfl
   subst g2
   rcases q2 with rfl|⟨rfl,rfl⟩
   ·exact hr.sat.low _ _ _ (DU q1) hw
   ·exact hr.sat.low _ _ _ (DU e) rfl
  | succ t =>
   obtain ⟨c0,q1,_⟩:=hg _ _ _ g
   exact hr.sat.low _ _ _ q1 (bU q1)
theorem N6 {k:List It} {c:AL} {Q:Tm->Mem->Prop} (h:AA L (.code c :: .lp c::k) tm M Q):AA L (.lp c::k) tm M Q:=fun σ st hr=>eB.2 (h σ st hr)
theorem S0 {α:Type} {k:List It} {c:AL} {Q:Tm->Mem->Prop} (m:α->Nat) (P:α->Prop) (vs:α->Tm) (Ms:α->Mem) (ts:List Nat) (τ:List (Nat × Nat)) (a:α)
  (he:O2 τ tm M (vs a++tdel ts tm) (Ms a++M)) (hp:P a)
  (step : ∀ a,P a->(∀ a',m a'<m a->P a'->AA L (.lp c::k) (vs a'++tdel ts tm) (Ms a'++M) Q)->AA L (.code c :: .lp c::k) (vs a++tdel ts tm) (Ms a++M) Q):AA L (.lp c::k) tm M Q:=by
 have key : ∀ n a,m a<n->P a->AA L (.lp c::k) (vs a++tdel ts tm) (Ms a++M) Q:=by
  intro n
  induction n with
  | zero=>intro a h;omega
  | succ n ih =>
   intro a ha hp
   exact N6 (step a hp fun a' h1 h2=>ih a' (by omega) h2)
 exact A4 τ he (key (m a+1) a (by omega) hp)
end
end Go.Eng
namespace Go.Eng
section
variable {α:Type} {enc:α->List AV} {l:List α} {L:Lib}
theorem AG {p q A B:Prop} (h1:p->A) (h2:q->B):AF p q A B:=⟨h1,h2⟩
theorem A3 {p A:Prop} (h1:p) (h2:A):AR p A:=⟨h1,h2⟩
section
variable {K:AV->Prop} {a b:Int} {k k':IntKind} {op:BinOp}
theorem VO {v:AV} (h:DG op k a k' b=some v) (hk:K v):AD op k a k' b K:=⟨v,h,hk⟩
theorem A0 (hr : -9223372036854775808<=a+b/\a+b<=9223372036854775807) (hk:K (.int .i64 (a+b))):AD .add .i64 a .i64 b K:=⟨_,by simp only[DG,if_true];rw[IntWalk.i64_in _ hr],hk⟩
theorem CF (hr : -9223372036854775808<=a-b/\a-b<=9223372036854775807) (hk:K (.int .i64 (a-b))):AD .sub .i64 a .i64 b K:=⟨_,by simp only[DG,if_true];rw[IntWalk.i64_in _ hr],hk⟩
theorem MI (hr : -9223372036854775808<=a*b/\a*b<=9223372036854775807) (hk:K (.int .i64 (a*b))):AD .mul .i64 a .i64 b K:=⟨_,by simp only[DG,if_true];rw[IntWalk.i64_in _ hr],hk⟩
theorem RJ (hb:0<b) (h1:(0<=a\/a%b=0)->0<=a%b->a%b<b->K (.int .i64 (a%b))) (h2:a<0->a%b≠0->0<=a%b->a%b<b->K (.int .i64 (a%b-b))):AD .rem .i64 a .i64 b K:=by
 have h5:0<=a%b:=Int.emod_nonneg _ (by omega)
 have h6:a%b<b:=Int.emod_lt_of_pos _ hb
 have e:DG .rem .i64 a .i64 b=some (.int .i64 (a.tmod b)):=by simp only[DG];rw[if_pos ⟨trivial,by omega⟩]
 by_cases hc:0<=a\/a%b=0
 ·rw[rV hb,if_pos hc]at e
  exact ⟨_,e,h1 hc h5 h6⟩
 ·rw[rV hb,if_neg hc]at e
  exact ⟨_,e,h2 (by omega) (by omega) h5 h6⟩
theorem P0 (hb:0<b) (ha : -9223372036854775808<=a/\a<=9223372036854775807) (h1:(0<=a\/a%b=0)->K (.int .i64 (a/b))) (h2:a<0->a%b≠0->K (.int .i64 (a/b+1))):AD .quo .i64 a .i64 b K:=by
 have hr:=AaA (m:=b) (by omega) ha
 have e:DG .quo .i64 a .i64 b=some (.int .i64 (IntKind.i64.wrap (a.tdiv b))):=by simp only[DG];rw[if_pos ⟨trivial,by omega⟩]
 by_cases hc:0<=a\/a%b=0
 ·rw[rN hb,if_pos hc,IntWalk.i64_in _ hr]at e
  exact ⟨_,e,h1 hc⟩
 ·have hneg:a/b<0:=Int.ediv_neg_of_neg_of_pos (by omega) hb
  rw[rN hb,if_neg hc,IntWalk.i64_in _ (by omega)]at e
  exact ⟨_,e,h2 (by omega) (by omega)⟩
theorem uO (h:0<=b/\b<=63) (hk:K (.int .i64 (a/pw b))):AD .shr .i64 a k' b K:=⟨_,Agq h,hk⟩
theorem uQ (hk:K (.int k (k.wrap (a+b)))):AD .add k a k b K:=⟨_,by simp only[DG,if_true],hk⟩
theorem B0.neg (hr : -9223372036854775808 <= -a /\ -a<=9223372036854775807) (hk:K (.int .i64 (-a))):B0 .neg .i64 a K:=⟨_,by simp only[PU];rw[show (0:Int)-a = -a by omega,IntWalk.i64_in _ hr],hk⟩
theorem B0.go {op:UnOp} {v:AV} (h:PU op (.int k a)=some v) (hk:K v):B0 op k a K:=⟨v,h,hk⟩
end
theorem S2 {k:IntKind} {n:Int} {K:Int->Prop} (e:k.wrap n=n) (h:K n):AU k n K:=by unfold AU;rw[e];exact h
theorem CR {n:Int} {K:Int->Prop} (hr:0<=n/\n<=18446744073709551615) (h:K n):AU .u64 n K:=S2 (IntWalk.u64_in _ hr) h
theorem PW {n:Int} {K:Int->Prop} (hr : -9223372036854775808<=n/\n<=9223372036854775807) (h:K n):AU .i64 n K:=S2 (IntWalk.i64_in _ hr) h
theorem BL {a:Int} {z:Nat} {K:List AV->Prop} {e:α} (he:l[a.toNat]? = some e) (h0:0<=a) (hz:(enc e).length=z) (h:K (enc e)):AX (l.map enc) a z K:=⟨h0,enc e,by simp [he],hz,h⟩
theorem YO {a:Int} {z:Nat} {K:List AV->Prop} (h0:0<=a/\a<l.length) (hz : ∀ e,(enc e).length=z) (h : ∀ e,l[a.toNat]? = some e->K (enc e)):AX (l.map enc) a z K:=by
 have he:l[a.toNat]? = some (l[a.toNat]'(by omega)):=zE _
 exact BL he h0.1 (hz _) (h _ he)
theorem uT {n z:Nat} {K:List AV->Prop} (hn:n<l.length) (hz : ∀ e,(enc e).length=z) (h : ∀ e,l[n]? = some e->K (enc e)):AX (l.map enc) (n:Int) z K :=
 YO ⟨by omega,by omega⟩ hz h
theorem HI {i j n:Nat} {K:List AV->Prop} {f:α->List AV} (hi:i<l.length) (hp : ∀ e,part (enc e) j n=some (f e)) (h : ∀ e,l[i]? = some e->K (f e)):A8 (l.map enc) (0+((i:Int)).toNat) j n K:=by
 have he:l[i]? = some l[i]:=zE _
 rw[Nat.zero_add,Int.toNat_natCast]
 exact ⟨enc l[i],f l[i],by simp [he],hp _,h _ he⟩
theorem S9 {i:Int} {j n:Nat} {K:List AV->Prop} {f:α->List AV} (hi:0<=i/\i<l.length) (hp : ∀ e,part (enc e) j n=some (f e)) (h : ∀ e,l[i.toNat]? = some e->K (f e)):A8 (l.map enc) (0+i.toNat) j n K:=by
 have hl:i.toNat<l.length:=by omega
 have he:l[i.toNat]? = some l[i.toNat]:=zE _
 rw[Nat.zero_add]
 exact ⟨enc l[i.toNat],f l[i.toNat],by rw[List.getElem?_map,he];rfl,hp _,h _ he⟩
theorem E9 {i:Nat} {vs:List AV} {K:List (List AV)->Prop} (e:α) (he:vs=enc e) (hz : ∀ x,(enc x).length=vs.length) (hi:i<l.length) (h:K ((l.set i e).map enc)):A6 (l.map enc) (0+((i:Int)).toNat) 0 vs K:=by
 rw[Nat.zero_add,Int.toNat_natCast]
 refine ⟨enc l[i],by simp [zE hi],by rw[hz];omega,?_⟩
 rw[show splice (enc l[i]) 0 vs=vs by simp [splice,<-hz l[i]],he,<-List.map_set];exact h
theorem VN {i j n:Nat} {K:List AV->Prop} {e:α} {ds:List AV} (he:l[i]? = some e) (hp:part (enc e) j n=some ds) (h:K ds):A8 (l.map enc) i j n K:=⟨enc e,ds,by simp [he],hp,h⟩
theorem AgB {cs vs:List AV} (h:cs.length=vs.length):splice cs 0 vs=vs:=by
 simp [splice,<-h]
theorem uY {i:Nat} {vs:List AV} {K:List (List AV)->Prop} (e:α) (he:vs=enc e) (hz : ∀ x,(enc x).length=vs.length) (hi:i<l.length) (h:K ((l.set i e).map enc)):A6 (l.map enc) i 0 vs K:=by
 refine ⟨enc l[i],by simp [zE hi],by rw[hz];omega,?_⟩
 rw[AgB (hz _),he,<-List.map_set];exact h
theorem EB {a b:Int} {bytes:Nat} {zero:List AV} {K:List (List AV)->Nat->Prop} (x:α) (n:Nat) (hx:zero=enc x) (hn:a=n) (hr:a<=b/\b*bytes<=140737488355328/\b<=9223372036854775807) (h:K ((List.replicate n x).map enc) n):BN a b bytes zero K:=by
 subst hn hx
 refine ⟨⟨by omega,hr.1,by simpa [EJ] using hr.2.1,hr.2.2⟩,?_⟩
 simpa using h
theorem AW {K:Nat->Prop} (h:K l.length):AP (l.map enc) K:=by unfold AP;simpa using h
theorem E2 {len z bytes:Nat} {vs:List AV} {K:List (List AV)->Nat->Prop} (e:α) (he:vs=enc e) (hl:len=l.length) (hz:vs.length=z) (hr:(l.length+1)*bytes<=140737488355328) (hr2:l.length+1<=9223372036854775807) (h:K ((l++[e]).map enc) (l++[e]).length):BK (l.map enc) len [vs] z bytes K:=by
 subst hl
 refine ⟨by simp,by simpa using hz,by simpa [EJ] using hr,by simpa using hr2,?_⟩
 rw[List.take_of_length_le (by simp)]
 simpa [he] using h
theorem YF {len z bytes:Nat} {l':List α} {K:List (List AV)->Nat->Prop} (hl:len=l.length) (hz : ∀ x,(enc x).length=z) (hr:(l.length+l'.length)*bytes<=140737488355328) (hr2:l.length+l'.length<=9223372036854775807) (h:K ((l++l').map enc) (l++l').length):BK (l.map enc) len (l'.map enc) z bytes K:=by
 subst hl
 refine ⟨by simp,by simp [hz],by simpa [EJ] using hr,by simpa using hr2,?_⟩
 rw[List.take_of_length_le (by simp)]
 simpa using h
theorem VJ {z bytes:Nat} {vs:List AV} {K:List (List AV)->Nat->Prop} (e:α) (he:vs=enc e) (hz:vs.length=z) (hb:bytes<=140737488355328) (h:K ([e].map enc) 1):BV [vs] z bytes K :=
 ⟨by simpa using hz,by simpa [EJ] using hb,by simp,by simpa [he] using h⟩
theorem O0 {z bytes:Nat} {K:List (List AV)->Nat->Prop} (hz : ∀ x,(enc x).length=z) (hr:l.length*bytes<=140737488355328) (hr2:l.length<=9223372036854775807) (h:K (l.map enc) l.length):BV (l.map enc) z bytes K :=
 ⟨by simp [hz],by simpa [EJ] using hr,by simpa using hr2,by simpa using h⟩
theorem VV {off len:Nat} {K:List (List AV)->Prop} (hl:off+len<=l.length) (h:K (((l.drop off).take len).map enc)):BI (l.map enc) off len K :=
 ⟨by simpa using hl,by rw[<-List.map_drop,<-List.map_take];exact h⟩
theorem cD : ∀ {e:List AV},FK e=true->NB e=true/\e.map nl=e
 | [],_=>⟨rfl,rfl⟩
 | v::r,h=>by
  have hv:FK r=true:=by cases v<;>simp only[FK]at h<;>first|cases h|exact h
  obtain ⟨h1,h2⟩:=cD hv
  cases v<;>simp only[FK]at h<;>first|cases h|exact ⟨h1,by rw[List.map_cons,h2];rfl⟩
theorem oO : ∀ {es:List (List AV)},(∀ e∈es,FK e=true)->es.map (fun e=>e.map nl)=es
 | [],_=>rfl
 | e::r,h=>by rw[List.map_cons,(cD (h e List.mem_cons_self)).2,oO fun x hx=>h x (List.mem_cons_of_mem _ hx)]
theorem VW {es:List (List AV)} {off len:Nat} {K:List (List AV)->Prop} (hl:off+len<=es.length) (hz : ∀ e∈es,FK e=true) (h:K ((es.drop off).take len)):AZ es off len K :=
 ⟨hl,fun e he=>(cD (hz e he)).1,by rw[oO fun e he=>hz e (List.mem_of_mem_drop (List.mem_of_mem_take he))];exact h⟩
theorem DE {off len:Nat} {K:List (List AV)->Prop} (hz : ∀ x,FK (enc x)=true) (ho:off=0) (hl:len=l.length) (h:K (l.map enc)):AZ (l.map enc) off len K:=by
 subst hl ho
 refine VW (by simp) (fun e he => ?_) (by rw[List.drop_zero,List.take_of_length_le (by simp)];exact h)
 obtain ⟨x,_,rfl⟩:=List.mem_map.1 he
 exact hz x
theorem GP {off len:Nat} {K:List (List AV)->Prop} (hz : ∀ x,FK (enc x)=true) (hl:off+len<=l.length) (h:K (((l.drop off).take len).map enc)):AZ (l.map enc) off len K:=by
 refine VW (by simpa using hl) (fun e he => ?_) (by rw[<-List.map_drop,<-List.map_take];exact h)
 obtain ⟨x,_,rfl⟩:=List.mem_map.1 he
 exact hz x
theorem EK {e:List AV} {K:List (List AV)->Prop} (h:K [e]):BI [e] 0 1 K:=⟨by simp,h⟩
theorem IM {e:List AV} {K:List (List AV)->Prop} (h0:FK e=true) (h:K [e]):AZ [e] 0 1 K:=VW (by simp) (by simpa using h0) h
theorem TD {e e':List AV} {K:List (List AV)->Prop} (h0:FK e=true) (h1:FK e'=true) (h:K [e,e']):AZ [e,e'] 0 2 K:=VW (by simp) (by simpa using ⟨h0,h1⟩) h
section
variable {β:Type} {z:Nat} {ll:List (List β)} {en:β->List AV}
abbrev B6 (z:Nat) (en:β->List AV) (ll:List (List β)):List (Option (Nat × List (List AV))):=ll.map fun r=>some (z,r.map en)
theorem FY {i:Nat} {K:Option (Nat × List (List AV))->Prop} (hi:i<ll.length) (h : ∀ r,ll[i]? = some r->K (some (z,r.map en))):BH (B6 z en ll) (0+((i:Int)).toNat) K:=by
 have he:ll[i]? = some ll[i]:=zE _
 exact ⟨_,by rw[Nat.zero_add,Int.toNat_natCast,List.getElem?_map,he];rfl,h _ he⟩
theorem uC {i:Nat} {K:Nat->List (List AV)->Prop} {r:List β} (hr:ll[i]? = some r) (h:K z (r.map en)):BF (B6 z en ll) i K :=
 ⟨z,r.map en,by rw[List.getElem?_map,hr];rfl,h⟩
theorem GE {i:Nat} {K:Nat->List (List AV)->Prop} {r:List β} (hr:ll[i]? = some r) (h:K z (r.map en)):BF (B6 z en ll) (0+((i:Int)).toNat) K:=by
 rw[Nat.zero_add,Int.toNat_natCast];exact uC hr h
theorem YN {i:Nat} {r r':List β} {K:List (Option (Nat × List (List AV)))->Prop} (hl:r'.length=r.length) (h:K (B6 z en (ll.set i r'))):B8 (B6 z en ll) (0+((i:Int)).toNat) z (r.map en) (r'.map en) K:=by
 rw[Nat.zero_add,Int.toNat_natCast]
 exact ⟨by simpa using hl,by simpa [B6,List.map_set] using h⟩
theorem RE {len bytes:Nat} {r:List β} {K:List (Option (Nat × List (List AV)))->Nat->Prop} (hl:len=ll.length) (hr:(ll.length+1)*bytes<=140737488355328) (hr2:ll.length+1<=9223372036854775807) (h:K (B6 z en (ll++[r])) (ll++[r]).length):B7 (B6 z en ll) len (some (z,r.map en)) bytes K:=by
 subst hl
 exact ⟨by simp,by simpa [EJ] using hr,hr2,by simpa [B6] using h⟩
theorem pV (q:Bool) : ∀ ll:List (List β),PN q (B6 z en ll)=ll.map fun r=>[AV.sl q (r.map en)]
 | []=>rfl
 | r::l=>by simp only[B6,List.map_cons,PN];rw[show PN q (l.map fun r=>some (z,r.map en))=_ from pV q l]
theorem RL {q:Bool} {off len:Nat} {K:List (List AV)->Prop} (hz : ∀ x,FK (en x)=true) (ho:off=0) (hl:len=ll.length) (h:K (ll.map fun r=>[AV.sl q (r.map en)])):CB q (B6 z en ll) off len K:=by
 refine ⟨ho,by simpa using hl,fun z' es hm e he => ?_,by rw[pV];exact h⟩
 obtain ⟨r,_,hr⟩:=List.mem_map.1 hm
 simp only[Option.some.injEq,Prod.mk.injEq]at hr
 obtain ⟨rfl,rfl⟩:=hr
 obtain ⟨x,_,rfl⟩:=List.mem_map.1 he
 exact hz x
end
theorem tX {len:Nat} {a:Int} {K:Nat->Nat->Prop} (h0:0<=a/\a<=len) (h:K a.toNat len):BG (some a) none len K:=⟨a.toNat,len,⟨h0.1,rfl⟩,rfl,by omega,h⟩
theorem tW {len:Nat} {b:Int} {K:Nat->Nat->Prop} (h0:0<=b/\b<=len) (h:K 0 b.toNat):BG none (some b) len K:=⟨0,b.toNat,rfl,⟨h0.1,h0.2,rfl⟩,by omega,h⟩
theorem S1 {len:Nat} {a b:Int} {K:Nat->Nat->Prop} (h0:0<=a/\a<=b/\b<=len) (h:K a.toNat b.toNat):BG (some a) (some b) len K:=⟨a.toNat,b.toNat,⟨h0.1,rfl⟩,⟨by omega,by omega,rfl⟩,by omega,h⟩
theorem RK {z:Nat} {lo hi:Option Int} {K:List (List AV)->Prop} (hz : ∀ x,(enc x).length=z) (h:BG lo hi l.length fun a h=>K (((l.take h).drop a).map enc)):BQ z (l.map enc) lo hi K:=by
 refine ⟨by simp [hz],?_⟩
 rw[List.length_map]
 obtain ⟨a,b,h1,h2,h3,h4⟩:=h
 refine ⟨a,b,h1,h2,h3,?_⟩
 show K _
 rw[<-List.map_take,<-List.map_drop];exact h4
theorem M3 {z k:Nat} {K:List (List AV)->Prop} (hz : ∀ x,(enc x).length=z) (hk:k<=l.length) (h:K ((l.take k).map enc)):BQ z (l.map enc) none (some (k:Int)) K :=
 RK hz (tW (by omega) (by simpa using h))
theorem uX {z k:Nat} {K:List (List AV)->Prop} (hz : ∀ x,(enc x).length=z) (hk:k<=l.length) (h:K ((l.drop k).map enc)):BQ z (l.map enc) (some (k:Int)) none K :=
 RK hz (tX (by omega) (by simpa using h))
theorem AC {f:Nat} {vs:List AV} {K:AV->Prop} {r:AV} (h:Ev L f vs r) (hk:K r):AB L f vs K:=⟨r,h,hk⟩
theorem eD {f:Nat} {vs:List AV} {K:AV->Prop} {p:Prop} [Decidable p] (h:Ev L f vs (.bool (decide p))) (h1:p->K (.bool true)) (h2 : ¬ p->K (.bool false)):AB L f vs K:=by
 refine ⟨_,h,?_⟩;by_cases e:p
 ·rw[decide_eq_true e];exact h1 e
 ·rw[decide_eq_false e];exact h2 e
theorem AY {a r:AV} (h:a=r) (hc:A9 r):AJ a r:=⟨h,hc⟩
theorem IK {a r:Bool} (h:a=r):AJ (.bool a) (.bool r):=⟨by rw[h],by simp [A9]⟩
theorem YH {p:Prop} [Decidable p] (h:p):AJ (.bool true) (.bool (decide p)):=⟨by simp [h],by simp [A9]⟩
theorem RG {p:Prop} [Decidable p] (h : ¬ p):AJ (.bool false) (.bool (decide p)):=⟨by simp [h],by simp [A9]⟩
theorem C4 {k:IntKind} {a b:Int} (h:a=b):AJ (.int k a) (.int k b):=⟨by rw[h],by simp [A9]⟩
theorem TL (h : ∀ x,CY (enc x)) : ∀ l:List α,FG (l.map enc)
 | []=>by simp [FG]
 | x::r=>by rw[List.map_cons,FG];exact ⟨h x,TL h r⟩
end
theorem CE {α:Type} {L:Lib} {k:List It} {cd:AL} {tm:Tm} {M:Mem} {Q:Tm->Mem->Prop} (m:α->Nat) (P:α->Prop) (vs:α->Tm) (Ms:α->Mem) (ts:List Nat) (τ:List (Nat × Nat)) (a:α)
  (he:O2 τ tm M (vs a++tdel ts tm) (Ms a++M)) (hp:P a)
  (step : ∀ a,P a->(∀ a',m a'<m a->P a'->AA L (.lp cd::k) (vs a'++tdel ts tm) (Ms a'++M) Q)->AA L (.code cd :: .lp cd::k) (vs a++tdel ts tm) (Ms a++M) Q):AA L (.lp cd::k) tm M Q :=
 S0 (α:=α) (fun x=>m x) (fun x=>P x) (fun x=>vs x) (fun x=>Ms x) ts τ a he hp fun a h ih=>step a h fun a' h1 h2=>ih a' h1 h2
theorem HG {α β:Type} {L:Lib} {k:List It} {cd:AL} {tm:Tm} {M:Mem} {Q:Tm->Mem->Prop} (m:α->β->Nat) (P:α->β->Prop) (vs:α->β->Tm) (Ms:α->β->Mem) (ts:List Nat) (τ:List (Nat × Nat)) (a:α) (b:β)
  (he:O2 τ tm M (vs a b++tdel ts tm) (Ms a b++M)) (hp:P a b)
  (step : ∀ a b,P a b->(∀ a' b',m a' b'<m a b->P a' b'->AA L (.lp cd::k) (vs a' b'++tdel ts tm) (Ms a' b'++M) Q)->AA L (.code cd :: .lp cd::k) (vs a b++tdel ts tm) (Ms a b++M) Q):AA L (.lp cd::k) tm M Q :=
 S0 (α:=α × β) (fun x=>m x.1 x.2) (fun x=>P x.1 x.2) (fun x=>vs x.1 x.2) (fun x=>Ms x.1 x.2) ts τ (a,b) he hp fun ⟨a,b⟩ h ih=>step a b h fun a' b' h1 h2=>ih (a',b') h1 h2
theorem F9 {α β γ:Type} {L:Lib} {k:List It} {cd:AL} {tm:Tm} {M:Mem} {Q:Tm->Mem->Prop} (m:α->β->γ->Nat) (P:α->β->γ->Prop) (vs:α->β->γ->Tm) (Ms:α->β->γ->Mem) (ts:List Nat) (τ:List (Nat × Nat)) (a:α) (b:β) (c:γ)
  (he:O2 τ tm M (vs a b c++tdel ts tm) (Ms a b c++M)) (hp:P a b c)
  (step : ∀ a b c,P a b c->(∀ a' b' c',m a' b' c'<m a b c->P a' b' c'->AA L (.lp cd::k) (vs a' b' c'++tdel ts tm) (Ms a' b' c'++M) Q)->AA L (.code cd :: .lp cd::k) (vs a b c++tdel ts tm) (Ms a b c++M) Q):AA L (.lp cd::k) tm M Q :=
 S0 (α:=α × β × γ) (fun x=>m x.1 x.2.1 x.2.2) (fun x=>P x.1 x.2.1 x.2.2) (fun x=>vs x.1 x.2.1 x.2.2) (fun x=>Ms x.1 x.2.1 x.2.2) ts τ (a,b,c) he hp fun ⟨a,b,c⟩ h ih=>step a b c h fun a' b' c' h1 h2=>ih (a',b',c') h1 h2
theorem VH {α β γ δ:Type} {L:Lib} {k:List It} {cd:AL} {tm:Tm} {M:Mem} {Q:Tm->Mem->Prop} (m:α->β->γ->δ->Nat) (P:α->β->γ->δ->Prop) (vs:α->β->γ->δ->Tm) (Ms:α->β->γ->δ->Mem) (ts:List Nat) (τ:List (Nat × Nat)) (a:α) (b:β) (c:γ) (d:δ)
  (he:O2 τ tm M (vs a b c d++tdel ts tm) (Ms a b c d++M)) (hp:P a b c d)
  (step : ∀ a b c d,P a b c d->(∀ a' b' c' d',m a' b' c' d'<m a b c d->P a' b' c' d'->AA L (.lp cd::k) (vs a' b' c' d'++tdel ts tm) (Ms a' b' c' d'++M) Q)->AA L (.code cd :: .lp cd::k) (vs a b c d++tdel ts tm) (Ms a b c d++M) Q):AA L (.lp cd::k) tm M Q :=
 S0 (α:=α × β × γ × δ) (fun x=>m x.1 x.2.1 x.2.2.1 x.2.2.2) (fun x=>P x.1 x.2.1 x.2.2.1 x.2.2.2) (fun x=>vs x.1 x.2.1 x.2.2.1 x.2.2.2) (fun x=>Ms x.1 x.2.1 x.2.2.1 x.2.2.2) ts τ (a,b,c,d) he hp fun ⟨a,b,c,d⟩ h ih=>step a b c d h fun a' b' c' d' h1 h2=>ih (a',b',c',d') h1 h2
theorem sO {α β γ δ ε ζ:Type} {L:Lib} {k:List It} {cd:AL} {tm:Tm} {M:Mem} {Q:Tm->Mem->Prop} (m:α->β->γ->δ->ε->ζ->Nat) (P:α->β->γ->δ->ε->ζ->Prop) (vs:α->β->γ->δ->ε->ζ->Tm) (Ms:α->β->γ->δ->ε->ζ->Mem) (ts:List Nat) (τ:List (Nat × Nat)) (a:α) (b:β) (c:γ) (d:δ) (e:ε) (f:ζ)
  (he:O2 τ tm M (vs a b c d e f++tdel ts tm) (Ms a b c d e f++M)) (hp:P a b c d e f)
  (step : ∀ a b c d e f,P a b c d e f->(∀ a' b' c' d' e' f',m a' b' c' d' e' f'<m a b c d e f->P a' b' c' d' e' f'->AA L (.lp cd::k) (vs a' b' c' d' e' f'++tdel ts tm) (Ms a' b' c' d' e' f'++M) Q)->AA L (.code cd :: .lp cd::k) (vs a b c d e f++tdel ts tm) (Ms a b c d e f++M) Q):AA L (.lp cd::k) tm M Q :=
 S0 (α:=α × β × γ × δ × ε × ζ) (fun x=>m x.1 x.2.1 x.2.2.1 x.2.2.2.1 x.2.2.2.2.1 x.2.2.2.2.2) (fun x=>P x.1 x.2.1 x.2.2.1 x.2.2.2.1 x.2.2.2.2.1 x.2.2.2.2.2) (fun x=>vs x.1 x.2.1 x.2.2.1 x.2.2.2.1 x.2.2.2.2.1 x.2.2.2.2.2) (fun x=>Ms x.1 x.2.1 x.2.2.1 x.2.2.2.1 x.2.2.2.2.1 x.2.2.2.2.2) ts τ (a,b,c,d,e,f) he hp fun ⟨a,b,c,d,e,f⟩ h ih=>step a b c d e f h fun a' b' c' d' e' f' h1 h2=>ih (a',b',c',d',e',f') h1 h2
theorem AE {L:Lib} {Q:Tm->Mem->Prop} {c:AL} {k:List It} {tm:Tm} {M:Mem} (h:fT (cnm 0 tm) fun tm=>fM (mcan M) fun M=>XK L Q 500 (.code c::k) tm M):AA L (.code c::k) tm M Q:=by
 rw[R7,MO]at h
 exact dZ (YR h)
end Go.Eng

namespace Go.Eng
variable {L:Lib}
def CK (N:Nat):AQ->Bool
 | .t n=>Nat.blt n N
 | .c _=>true
def US (N:Nat):D7->Bool
 | .mov x=>CK N x
 | .vrow _ _=>true
 | .pick c a b=>CK N c&&(CK N a&&CK N b)
 | .bin _ x y=>CK N x&&CK N y
 | .beq _ x y=>CK N x&&CK N y
 | .un _ x=>CK N x
 | .conv _ x=>CK N x
 | .box _ x=>CK N x
 | .alloc _ _=>true
 | .build _ ps=>ps.all fun p=>CK N p.2.2
 | .bslice _ _ ps=>ps.all (CK N)
 | .fadr x _=>CK N x
 | .fld x _ _ _=>CK N x
 | .iadr _ _ x i=>CK N x&&CK N i
 | .idx _ _ _ x i=>CK N x&&CK N i
 | .ld _ _ x=>CK N x
 | .st _ x v=>CK N x&&CK N v
 | .mk _ _ _ _ l c=>CK N l&&CK N c
 | .slc _ x lo hi=>CK N x&&((lo.all (CK N))&&(hi.all (CK N)))
 | .ext x _=>CK N x
 | .len x=>CK N x
 | .mm _ xs=>xs.all (CK N)
 | .app _ _ _ x y=>CK N x&&CK N y
 | .cpy _ x y=>CK N x&&CK N y
 | .call _ xs=>xs.all (CK N)
 | .calli _ xs=>xs.all (CK N)
 | .isn _ x=>CK N x
 | .sidx _ x=>CK N x
 | .bad=>true
 | .nck x=>CK N x
 | .capn x=>CK N x
 | .apz _ _ _ x y=>CK N x&&CK N y
 | .apd _ _ _ x y=>CK N x&&CK N y
 | .mkf _ _ xs=>xs.all (CK N)
 | .callv x xs=>CK N x&&xs.all (CK N)
 | .callq _ xs=>xs.all (CK N)
 | .callr _ _ xs=>xs.all (CK N)
 | .cals _ _ xs=>xs.all (CK N)
 | .aeq _ _ x y=>CK N x&&CK N y
 | .sto _ _ x v=>CK N x&&CK N v
 | .appo _ _ _ x y=>CK N x&&CK N y
def TE (N:Nat) (a:AI):Bool:=(a.dst.all fun d=>Nat.blt d N)&&((a.guard.all fun g=>Nat.blt g.1 N)&&US N a.op)
def HU (N:Nat):AL->Bool
 | .skip=>true
 | .ops l _=>l.all (TE N)
 | .dr c ts _=>HU N c&&ts.all fun t=>Nat.blt t N
 | .scope c=>HU N c
 | .seq a b=>HU N a&&HU N b
 | .cond c a b=>CK N c&&(HU N a&&HU N b)
 | .block _ c=>HU N c
 | .loop c=>HU N c
 | .exit _=>true
 | .ret=>true
def PF (N:Nat):It->Bool
 | .code c=>HU N c
 | .drp ts _=>ts.all fun t=>Nat.blt t N
 | .blk _=>true
 | .lp c=>HU N c
structure Gh (N:Nat) (G T T':Tm):Prop where
 lo : ∀ j,j<N->tget T' j=tget T j
 hi : ∀ j,N<=j->tget T' j=tget G j
variable {N:Nat} {G:Tm}
theorem P8 {a b:Nat}:Nat.blt a b=true↔a<b:=by simp [Nat.blt];omega
theorem Gh.ev {st:St} {T':Tm} {o:AH} (h:Gh N G st.tm T') {x:AQ} (hx:CK N x=true):St.ev ⟨T',o⟩ x=st.ev x:=by
 cases x with
 | t n=>exact h.lo n (P8.1 hx)
 | c v=>rfl
theorem QP {f g:AQ->AV} {xs:List AQ} (h : ∀ x,CK N x=true->f x=g x) (hx:xs.all (CK N)=true):xs.map f=xs.map g:=by
 apply List.map_congr_left
 intro x hm
 exact h x (List.all_eq_true.1 hx x hm)
theorem AaC {C:Cl} {ban:List Nat} {ρ ρ':AQ->AV} {own:AH} (h : ∀ x,CK N x=true->ρ' x=ρ x) : ∀ (op:D7),US N op=true->eff C ban ρ' own op=eff C ban ρ own op:=by
 intro op hop
 cases op
 case build zero ps =>
  have:(ps.map fun p=>(p.1,p.2.1,ρ' p.2.2))=ps.map fun p=>(p.1,p.2.1,ρ p.2.2):=by
   apply List.map_congr_left
   intro p hm
   rw[h _ (List.all_eq_true.1 hop p hm)]
  simp only[eff,this]
 case bslice s esz ps =>
  have:ps.mapM (fun x=>cellsOf (ρ' x))=ps.mapM (fun x=>cellsOf (ρ x)):=by
   have hps:ps.all (CK N)=true:=hop
   clear hop
   induction ps with
   | nil=>rfl
   | cons p r ih =>
    simp only[List.all_cons,Bool.and_eq_true]at hps
    simp only[List.mapM_cons,h _ hps.1,ih hps.2]
  simp only[eff,this]
 case mm m xs=>simp only[eff,QP h hop]
 case call f xs=>simp only[eff,QP h hop]
 case calli f xs=>simp only[eff,QP h hop]
 case mkf p f xs =>
  have:xs.mapM (fun x=>GW (ρ' x))=xs.mapM (fun x=>GW (ρ x)):=by
   have hps:xs.all (CK N)=true:=hop
   clear hop
   induction xs with
   | nil=>rfl
   | cons p r ih =>
    simp only[List.all_cons,Bool.and_eq_true]at hps
    simp only[List.mapM_cons,h _ hps.1,ih hps.2]
  simp only[eff,this]
 case callq f xs=>simp only[eff,QP h hop]
 case callr s f xs=>simp only[eff,QP h hop]
 case cals s f xs=>simp only[eff,QP h hop]
 case callv x xs =>
  simp only[US,Bool.and_eq_true]at hop
  simp only[eff,QP h hop.2,h _ hop.1]
 case slc esz x lo hi =>
  simp only[US,Bool.and_eq_true]at hop
  obtain ⟨h1,h2,h3⟩:=hop
  cases lo<;>cases hi<;>simp only[Option.all_some,Option.all_none]at h2 h3<;>simp only[eff,h _ h1,h _,h2,h3]
 all_goals (simp only[US,Bool.and_eq_true]at hop;simp only[eff,h _,hop])
theorem Gh.dst {T T':Tm} (h:Gh N G T T') {d:Nat} (hd:d<N) (v:AV):Gh N G (tput T d v) (tput T' d v):=by
 constructor
 ·intro j hj
  rw[VG,VG,h.lo j hj]
 ·intro j hj
  rw[VG,h.hi j hj,if_neg (by omega)]
theorem Gh.dstO {T T':Tm} {o:AH} (h:Gh N G T T') {d:Option Nat} (hd:(d.all fun d=>Nat.blt d N)=true) (v:AV):((⟨T',o⟩:St).dst d v).own=((⟨T,o⟩:St).dst d v).own/\Gh N G ((⟨T,o⟩:St).dst d v).tm ((⟨T',o⟩:St).dst d v).tm:=by
 cases d with
 | none=>exact ⟨rfl,h⟩
 | some d=>exact ⟨rfl,h.dst (P8.1 hd) v⟩
theorem AgE {C:Cl} {a:AI} (ha:TE N a=true) {T T':Tm} {o:AH} (h:Gh N G T T') {s':St} (hs:DB C a ⟨T',o⟩=some s') : ∃ s,DB C a ⟨T,o⟩=some s/\s'.own=s.own/\Gh N G s.tm s'.tm:=by
 simp only[TE,Bool.and_eq_true]at ha
 obtain ⟨h1,h2,h3⟩:=ha
 have hg:FF ⟨T',o⟩ a.guard=FF ⟨T,o⟩ a.guard:=by
  cases hgg:a.guard with
  | none=>rfl
  | some g =>
   rw[hgg]at h2
   simp only[FF,h.lo _ (P8.1 h2)]
 have he:=AaC (C:=C) (ban:=a.ban) (own:=o) (ρ:=St.ev ⟨T,o⟩) (ρ':=St.ev ⟨T',o⟩) (fun x hx=>Gh.ev (st:=⟨T,o⟩) h hx) a.op h3
 unfold DB at hs ⊢
 rw[hg,he]at hs
 cases hgd:FF ⟨T,o⟩ a.guard with
 | none=>rw[hgd]at hs;cases hs
 | some b =>
  rw[hgd]at hs
  cases b with
  | false =>
   simp only[Option.some.injEq]at hs ⊢
   subst hs
   exact ⟨_,rfl,h.dstO h1 _⟩
  | true =>
   simp only at hs ⊢
   cases hee:eff C a.ban (St.ev ⟨T,o⟩) o a.op with
   | none=>rw[hee]at hs;cases hs
   | some e =>
    rw[hee]at hs
    simp only[Option.map_some,Option.some.injEq]at hs ⊢
    subst hs
    refine ⟨_,rfl,?_⟩
    cases e with
    | val v=>exact h.dstO h1 v
    | new s b v=>exact ⟨rfl,(h.dstO (o:=o) h1 _).2⟩
    | vir s b v=>exact ⟨rfl,(h.dstO (o:=o) h1 _).2⟩
    | tur v o'=>exact ⟨rfl,(h.dstO (o:=o) h1 _).2⟩
    | upd s x=>exact ⟨rfl,(h.dstO (o:=o) h1 _).2⟩
    | upn s x v=>exact ⟨rfl,(h.dstO (o:=o) h1 _).2⟩
theorem rI {C:Cl} : ∀ {l:List AI},l.all (TE N)=true -> ∀ {T T':Tm} {o:AH},Gh N G T T' -> ∀ {s':St},DC C l ⟨T',o⟩=some s' -> ∃ s,DC C l ⟨T,o⟩=some s/\s'.own=s.own/\Gh N G s.tm s'.tm
 | [],_,T,T',o,h,s',hs=>by
  simp only[DC,Option.some.injEq]at hs
  subst hs
  exact ⟨_,rfl,rfl,h⟩
 | a::l,ha,T,T',o,h,s',hs=>by
  simp only[List.all_cons,Bool.and_eq_true]at ha
  simp only[DC]at hs
  cases h1:DB C a ⟨T',o⟩ with
  | none=>rw[h1]at hs;cases hs
  | some s1 =>
   rw[h1]at hs
   obtain ⟨s2,e1,e2,e3⟩:=AgE ha.1 h h1
   obtain ⟨T1,o1⟩:=s1
   obtain ⟨T2,o2⟩:=s2
   simp only at e2 e3
   subst e2
   obtain ⟨s3,f1,f2,f3⟩:=rI ha.2 e3 hs
   exact ⟨s3,by simp only[DC,e1,f1],f2,f3⟩
theorem T9 {id:Nat} : ∀ {k k':List It},k.all (PF N)=true->DP id k=some k'->k'.all (PF N)=true
 | [],_,_,h=>by simp [DP]at h
 | it::k,k',hk,h=>by
  simp only[List.all_cons,Bool.and_eq_true]at hk
  cases it with
  | blk i =>
   simp only[DP]at h
   split at h
   ·cases h;exact hk.2
   ·exact T9 hk.2 h
  | code c=>simp only[DP]at h;exact T9 hk.2 h
  | drp a b=>simp only[DP]at h;exact T9 hk.2 h
  | lp c=>simp only[DP]at h;exact T9 hk.2 h
theorem IC {C:Cl} : ∀ (n:Nat) {k:List It},k.all (PF N)=true -> ∀ {T T':Tm} {o:AH},Gh N G T T' -> ∀ {s':St},run C n k ⟨T',o⟩=some s' -> ∃ s,run C n k ⟨T,o⟩=some s/\s'.own=s.own/\Gh N G s.tm s'.tm
 | 0,k,_,T,T',o,_,s',hs=>by simp [run]at hs
 | n+1,[],_,T,T',o,h,s',hs=>by
  simp only[run,Option.some.injEq]at hs ⊢
  subst hs
  exact ⟨_,rfl,rfl,h⟩
 | n+1,.blk _::k,hk,T,T',o,h,s',hs=>by
  simp only[List.all_cons,Bool.and_eq_true]at hk
  simp only[run]at hs ⊢
  exact IC n hk.2 h hs
 | n+1,.drp ts ss::k,hk,T,T',o,h,s',hs=>by
  simp only[List.all_cons,Bool.and_eq_true]at hk
  simp only[run]at hs ⊢
  refine IC n hk.2 ⟨fun j hj => ?_,fun j hj => ?_⟩ hs
  ·rw[ST,ST,h.lo j hj]
  ·rw[ST,h.hi j hj,if_neg]
   intro hc
   have:=List.all_eq_true.1 hk.1 j (by simpa using hc)
   have:=P8.1 this
   omega
 | n+1,.lp c::k,hk,T,T',o,h,s',hs=>by
  simp only[run]at hs ⊢
  have hk':=hk
  simp only[List.all_cons,Bool.and_eq_true]at hk
  exact IC n (by simp only[List.all_cons,Bool.and_eq_true];exact ⟨hk.1,hk.1,hk.2⟩) h hs
 | n+1,.code c::k,hk,T,T',o,h,s',hs=>by
  simp only[List.all_cons,Bool.and_eq_true]at hk
  obtain ⟨hc,hk⟩:=hk
  cases c with
  | skip=>simp only[run]at hs ⊢;exact IC n hk h hs
  | ops l d =>
   simp only[run]at hs ⊢
   cases h1:DC C l ⟨T',o⟩ with
   | none=>rw[h1]at hs;cases hs
   | some s1 =>
    rw[h1]at hs
    obtain ⟨s2,e1,e2,e3⟩:=rI (show l.all (TE N)=true from hc) h h1
    obtain ⟨T1,o1⟩:=s1
    obtain ⟨T2,o2⟩:=s2
    simp only at e2 e3
    subst e2
    rw[e1]
    exact IC n hk e3 hs
  | dr c ts ss =>
   simp only[run]at hs ⊢
   simp only[PF,HU,Bool.and_eq_true]at hc
   exact IC n (by simp only[List.all_cons,Bool.and_eq_true];exact ⟨hc.1,hc.2,hk⟩) h hs
  | scope c =>
   simp only[run]at hs ⊢
   exact IC n (by simp only[List.all_cons,Bool.and_eq_true];exact ⟨hc,hk⟩) h hs
  | seq a b =>
   simp only[run]at hs ⊢
   simp only[PF,HU,Bool.and_eq_true]at hc
   exact IC n (by simp only[List.all_cons,Bool.and_eq_true];exact ⟨hc.1,hc.2,hk⟩) h hs
  | cond x a b =>
   simp only[PF,HU,Bool.and_eq_true]at hc
   simp only[run,Gh.ev (st:=⟨T,o⟩) h hc.1]at hs ⊢
   cases hx:St.ev ⟨T,o⟩ x<;>rw[hx]at hs<;>try (simp at hs;done)
   rename_i q
   cases q
   ·exact IC n (by simp only[List.all_cons,Bool.and_eq_true];exact ⟨hc.2.2,hk⟩) h hs
   ·exact IC n (by simp only[List.all_cons,Bool.and_eq_true];exact ⟨hc.2.1,hk⟩) h hs
  | block id c =>
   simp only[run]at hs ⊢
   exact IC n (by simp only[List.all_cons,Bool.and_eq_true];exact ⟨hc,rfl,hk⟩) h hs
  | loop c =>
   simp only[run]at hs ⊢
   exact IC n (by simp only[List.all_cons,Bool.and_eq_true];exact ⟨hc,hc,hk⟩) h hs
  | exit id =>
   simp only[run]at hs ⊢
   cases he:DP id k with
   | none=>rw[he]at hs;cases hs
   | some k' =>
    rw[he]at hs
    exact IC n (T9 hk he) h hs
  | ret =>
   simp only[run,Option.some.injEq]at hs ⊢
   subst hs
   exact ⟨_,rfl,rfl,h⟩
def F6 (N:Nat):Tm->Tm
 | []=>[]
 | (i,v)::r=>(N+i,v)::F6 N r
def gh (N:Nat):Tm->Tm
 | []=>[]
 | (i,v)::r=>bif Nat.ble N i then (Nat.sub i N,v)::gh N r else gh N r
theorem dT (N j:Nat) : ∀ T:Tm,tget (F6 N T) (N+j)=tget T j
 | []=>rfl
 | (i,v)::r=>by
  have ih:=dT N j r
  simp only[F6,tget,ih]
  by_cases h:j=i
  ·simp [h]
  ·rw[if_neg h,if_neg (by omega)]
theorem dU {N j:Nat} (hj:j<N) : ∀ T:Tm,tget (F6 N T) j = .any
 | []=>rfl
 | (i,v)::r=>by
  simp only[F6,tget,dU hj r]
  rw[if_neg (by omega)]
theorem dR (N j:Nat) : ∀ T:Tm,tget (gh N T) j=tget T (N+j)
 | []=>rfl
 | (i,v)::r=>by
  have ih:=dR N j r
  simp only[gh]
  cases h:Nat.ble N i
  ·have h1 : ¬ N<=i:=fun e=>by rw[Nat.ble_eq_true_of_le e]at h;cases h
   simp only[cond,tget,ih]
   rw[if_neg (by omega)]
  ·have h1:=Nat.le_of_ble_eq_true h
   simp only[cond,tget,ih]
   by_cases h2:j=i-N
   ·rw[if_pos (show j=Nat.sub i N from h2),if_pos (by omega)]
   ·rw[if_neg (show ¬ j=Nat.sub i N from h2),if_neg (by omega)]
def M6 (f:AV->AV):Tm->Tm
 | []=>[]
 | (i,v)::r=>(i,f v)::M6 f r
theorem L8 {f:AV->AV} (hf:f .any = .any) (j:Nat) : ∀ T:Tm,tget (M6 f T) j=f (tget T j)
 | []=>hf.symm
 | (i,v)::r=>by
  simp only[M6,tget,L8 hf j r]
  by_cases h:j=i<;>simp [h]
theorem aV (f:AV->AV) : ∀ (i:Nat) (vs:List AV),CZ i (vs.map f)=M6 f (CZ i vs)
 | _,[]=>rfl
 | i,v::r=>by simp only[List.map_cons,CZ,M6,aV f (i+1) r]
theorem VE (j:Nat) (b:Tm) : ∀ a:Tm,((a.any fun p=>p.1 == j)=true/\tget (a++b) j=tget a j)\/((a.any fun p=>p.1 == j)=false/\tget (a++b) j=tget b j)
 | []=>Or.inr ⟨rfl,rfl⟩
 | (i,v)::r=>by
  by_cases h:j=i
  ·subst h
   exact Or.inl (by simp [tget])
  ·have h' : ¬ i=j:=fun e=>h e.symm
   rcases VE j b r with ⟨h1,h2⟩|⟨h1,h2⟩
   ·exact Or.inl ⟨by rw[List.any_cons,h1,Bool.or_true],by simp only[List.cons_append,tget,if_neg h,h2]⟩
   ·exact Or.inr ⟨by rw[List.any_cons,h1,Bool.or_false];simpa using h',by simp only[List.cons_append,tget,if_neg h,h2]⟩
theorem aU (j:Nat) : ∀ (i:Nat) (vs:List AV),((CZ i vs).any fun p=>p.1 == j)=true->j<i+vs.length
 | _,[],h=>by simp [CZ]at h
 | i,v::r,h=>by
  simp only[CZ,List.any_cons,Bool.or_eq_true,beq_iff_eq]at h
  rcases h with h|h
  ·simp;omega
  ·have:=aU j (i+1) r h
   simp;omega
theorem dS (j:Nat) : ∀ (i:Nat) (vs:List AV),((CZ i vs).any fun p=>p.1 == j)=false->tget (CZ i vs) j = .any
 | _,[],_=>rfl
 | i,v::r,h=>by
  simp only[CZ,List.any_cons,Bool.or_eq_false_iff,beq_eq_false_iff_ne]at h
  simp only[CZ,tget]
  rw[if_neg fun e=>h.1 e.symm,dS j (i+1) r h.2]
theorem MY (σ:FJ):BJ σ .any = .any:=rfl
def PJ (tm:Tm):List I4->Option (List AV)
 | []=>some []
 | .tmp t::r=>match IZ (tg tm t),PJ tm r with
  | some v,some vs=>some (v::vs)
  | _,_=>none
 | .cell _ _ _::_=>none
def UZ (N:Nat):List I4->Bool
 | []=>true
 | .tmp t::r=>Nat.blt t N&&UZ N r
 | .cell _ _ _::_=>false
def eU (N:Nat) (fn:AFn) (tm:Tm) (K:AV->Mem->Prop) (tm':Tm) (M':Mem):Prop:=gh N tm'=tm /\ ∃ rs,PJ tm' fn.res=some rs/\K (HP rs) M'
theorem Af7 {σ:FJ} {v u:AV} (h:IZ v=some u):u=v/\BJ σ v=BW σ v/\IZ (BJ σ v)=some (BJ σ v):=by
 cases v<;>simp [IZ]at h<;>subst h<;>exact ⟨rfl,rfl,rfl⟩
theorem cQ {σ:FJ} {tm':Tm} {M:Mem} {s s':St} (hr:RX σ tm' M s') (hlo : ∀ j,j<N->tget s'.tm j=tget s.tm j) : ∀ {res:List I4} {rs:List AV},UZ N res=true->PJ tm' res=some rs->res.mapM (E0 s)=some (rs.map (BW σ)) /\ ∀ v∈rs,BJ σ v=BW σ v
 | [],rs,_,h=>by
  simp only[PJ,Option.some.injEq]at h
  subst h
  exact ⟨rfl,by simp⟩
 | .cell _ _ _::_,_,_,h=>by simp [PJ]at h
 | .tmp t::r,rs,hl,h=>by
  simp only[UZ,Bool.and_eq_true]at hl
  simp only[PJ]at h
  cases h1:IZ (tg tm' t) with
  | none=>rw[h1]at h;simp at h
  | some v =>
   cases h2:PJ tm' r with
   | none=>rw[h1,h2]at h;simp at h
   | some vs =>
    rw[h1,h2]at h
    simp only[Option.some.injEq]at h
    subst h
    obtain ⟨i1,i2⟩:=cQ hr hlo hl.2 h2
    obtain ⟨rfl,j2,j3⟩:=Af7 (σ:=σ) h1
    have:tget s.tm t=BJ σ (tg tm' t):=by
     rcases hr.tm t with e|e
     ·rw[e]at h1;cases h1
     ·rw[<-hlo t (P8.1 hl.1),e]
    refine ⟨?_,?_⟩
    ·rw[j2]at j3 this
     simp only[List.mapM_cons,E0,this,j3,i1,List.map_cons]
     rfl
    ·intro v hv
     simp only[List.mem_cons]at hv
     rcases hv with rfl|hv
     ·exact j2
     ·exact i2 v hv
theorem pN {σ:FJ} {rs:List AV} (h : ∀ v∈rs,BJ σ v=BW σ v):HP (rs.map (BW σ))=BJ σ (HP rs):=by
 match rs,h with
 | [],_=>rfl
 | [v],h=>exact (h v (by simp)).symm
 | _::_::_,_=>rfl
theorem E6 {f:Nat} {fn:AFn} {vs:List AV} {tm:Tm} {M:Mem} {K:AV->Mem->Prop} (N:Nat) (hL:L f=some fn) (hp:Nat.beq vs.length fn.pars=true) (hN:(Nat.ble fn.pars N&&(HU N fn.body&&UZ N fn.res))=true)
  (h:AA L [.code fn.body] (CZ 0 vs++F6 N tm) M (eU N fn tm K)):A7 L f vs tm M K:=by
 intro σ own hs
 simp only[Bool.and_eq_true]at hN
 obtain ⟨n1,n2,n3⟩:=hN
 have n1:=Nat.le_of_ble_eq_true n1
 have hp:vs.length=fn.pars:=Nat.eq_of_beq_eq_true hp
 have hrx:RX σ (CZ 0 vs++F6 N tm) M ⟨M6 (BJ σ) (CZ 0 vs++F6 N tm),own⟩:=⟨fun j=>Or.inr (by rw[L7];exact L8 (MY σ) j _),hs⟩
 obtain ⟨n,c,s',hr,σ',tm',M',hR,hg,rs,hrs,hk⟩:=h σ _ hrx
 have hgh:Gh N (M6 (BJ σ) (F6 N tm)) (CZ 0 (vs.map (BJ σ))) (M6 (BJ σ) (CZ 0 vs++F6 N tm)):=by
  constructor
  ·intro j hj
   rw[aV,L8 (MY σ),L8 (MY σ)]
   rcases VE j (F6 N tm) (CZ 0 vs) with ⟨_,e⟩|⟨hn,e⟩
   ·rw[e]
   ·rw[e,dU hj,dS j 0 vs hn]
  ·intro j hj
   rw[L8 (MY σ),L8 (MY σ)]
   rcases VE j (F6 N tm) (CZ 0 vs) with ⟨hn,e⟩|⟨_,e⟩
   ·have:=aU j 0 vs hn
    omega
   ·rw[e]
 obtain ⟨s,r1,r2,r3⟩:=IC n (by simp [PF,n2]) hgh hr
 obtain ⟨i1,i2⟩:=cQ (s:=s) hR r3.lo n3 hrs
 refine ⟨HP rs,s.own,σ',M',GC.intro hL (by simpa using hp) ⟨n,c,s,r1,?_,rfl⟩,?_,?_,hk⟩
 ·rw[i1,Option.map_some,pN i2]
 ·rw[<-r2];exact hR.sat
 ·intro j
  have e1:tg tm j=tg tm' (N+j):=by rw[L7,L7,<-hg,dR]
  rcases hR.tm (N+j) with e|e
  ·rw[e1,e];rfl
  ·rw[e1,<-e,r3.hi (N+j) (by omega),L8 (MY σ),dT,<-L7,e1]
theorem O6 {α:Type} {enc:α->List AV} {l:List α} {i:Nat} {vs:List AV} {K:List (List AV)->Prop} (n:Nat) (e:α) (hn:i=n) (he:vs=enc e) (hz : ∀ x,(enc x).length=vs.length) (hi:n<l.length) (h:K ((l.set n e).map enc)):A6 (l.map enc) i 0 vs K:=by
 subst hn
 exact uY e he hz hi h
theorem GA {x:Int} {len:Nat} {K:Nat->Nat->Prop} (h:Nat) (hx:x=h) (hl:h<=len) (hk:K 0 h):BG none (some x) len K:=⟨0,h,rfl,⟨by omega,by omega,by omega⟩,by omega,hk⟩
theorem tV {x:Int} {len:Nat} {K:Nat->Nat->Prop} (a:Nat) (hx:x=a) (hl:a<=len) (hk:K a len):BG (some x) none len K:=⟨a,len,⟨by omega,by omega⟩,rfl,by omega,hk⟩
end Go.Eng

namespace Go.Eng
section
variable {K:AV->Prop} {a b:Nat} {k':IntKind}
theorem wrap_u32 (n:Nat):IntKind.u32.wrap (n:Int)=((n%4294967296:Nat):Int):=by rw[IntKind.wrap_u32];omega
theorem Ag9 (n:Nat):IntKind.u64.wrap (n:Int)=((n%18446744073709551616:Nat):Int):=by
 simp [IntKind.wrap,IntKind.bits,IntKind.signed]
theorem FQ (h:a+b<=18446744073709551615) (hk:K (.int .u64 ((a+b:Nat):Int))):AD .add .u64 (a:Int) .u64 (b:Int) K :=
 ⟨_,by simp only[DG,if_true];rw[IntWalk.u64_in _ (by omega)],by simpa using hk⟩
theorem IL (h:b<=a) (h2:a<=18446744073709551615) (hk:K (.int .u64 ((a-b:Nat):Int))):AD .sub .u64 (a:Int) .u64 (b:Int) K :=
 ⟨_,by simp only[DG,if_true];rw[IntWalk.u64_in _ (by omega)],by rw[show (a:Int)-b=((a-b:Nat):Int) by omega];exact hk⟩
theorem VT (h:b<=18446744073709551616) (hk:K (.int .u64 ((EF a b:Nat):Int))):AD .sub .u64 (a:Int) .u64 (b:Int) K :=
 VO (v := .int .u64 (IntKind.u64.wrap ((a:Int)-b))) (by simp only[DG,if_true]) (by
  have e:IntKind.u64.wrap ((a:Int)-b)=((EF a b:Nat):Int):=by
   rw[RB]
   simp only[IntKind.wrap,IntKind.bits,IntKind.signed]
   simp;omega
  rw[e];exact hk)
theorem N7 (h:a*b<=18446744073709551615) (hk:K (.int .u64 ((a*b:Nat):Int))):AD .mul .u64 (a:Int) .u64 (b:Int) K :=
 ⟨_,by simp only[DG,if_true];rw[<-Int.natCast_mul,IntWalk.u64_in _ (by omega)],hk⟩
theorem VR (h:0<b) (h2:a<=18446744073709551615) (hk:K (.int .u64 ((a/b:Nat):Int))):AD .quo .u64 (a:Int) .u64 (b:Int) K:=by
 refine ⟨_,by simp only[DG];rw[if_pos ⟨trivial,by omega⟩],?_⟩
 rw[IntWalk.u64_quo _ _ ⟨by omega,by omega,by omega⟩,<-Int.natCast_ediv]
 exact hk
theorem TA (h:0<b) (hk:K (.int .u64 ((a%b:Nat):Int))):AD .rem .u64 (a:Int) .u64 (b:Int) K:=by
 refine ⟨_,by simp only[DG];rw[if_pos ⟨trivial,by omega⟩],?_⟩
 rw[IntWalk.rem_in _ _ (by omega),<-Int.natCast_emod]
 exact hk
theorem Agp {k:IntKind} {n:Nat} (hn:n<=k.bits):DG .shl k (a:Int) k' (n:Int)=some (.int k (k.wrap ((a*2^n:Nat):Int))):=by
 simp only[DG]
 rw[if_neg (by omega),Int.toNat_natCast,Nat.min_eq_left hn]
 simp
theorem Agr {k:IntKind} {n:Nat} (hn:n<=k.bits):DG .shr k (a:Int) k' (n:Int)=some (.int k ((a/2^n:Nat):Int)):=by
 simp only[DG]
 rw[if_neg (by omega),Int.toNat_natCast,Nat.min_eq_left hn,Int.fdiv_eq_ediv_of_nonneg _ (Int.le_of_lt (Int.pow_pos (by omega)))]
 simp
theorem YL {k:IntKind} {n:Nat} (hn:n<=k.bits) (hk:K (.int k (k.wrap ((a*2^n:Nat):Int)))):AD .shl k (a:Int) k' (n:Int) K:=⟨_,Agp hn,hk⟩
theorem N9 {k:IntKind} {n:Nat} (hn:n<=k.bits) (hk:K (.int k ((a/2^n:Nat):Int))):AD .shr k (a:Int) k' (n:Int) K:=⟨_,Agr hn,hk⟩
theorem NN (h:a<=4294967295) (hk:K (.int .u64 ((a*4294967296:Nat):Int))):AD .shl .u64 (a:Int) k' 32 K:=by
 refine YL (n:=32) (by decide) ?_
 rw[Ag9,show a*2^32%18446744073709551616=a*4294967296 by omega]
 exact hk
theorem E8 (hk:K (.int .u64 ((a/4294967296:Nat):Int))):AD .shr .u64 (a:Int) k' 32 K:=N9 (n:=32) (by decide) hk
theorem VS (hk:K (.int .u64 ((a/9223372036854775808:Nat):Int))):AD .shr .u64 (a:Int) k' 63 K:=N9 (n:=63) (by decide) hk
theorem uK (hk:K (.int .u64 ((a/4:Nat):Int))):AD .shr .u64 (a:Int) k' 2 K:=N9 (n:=2) (by decide) hk
theorem uJ (hk:K (.int .u32 ((a/65536:Nat):Int))):AD .shr .u32 (a:Int) k' 16 K:=N9 (n:=16) (by decide) hk
theorem uL (hk:K (.int .u32 ((a/256:Nat):Int))):AD .shr .u32 (a:Int) k' 8 K:=N9 (n:=8) (by decide) hk
theorem uI (hk:K (.int .u32 ((a/2:Nat):Int))):AD .shr .u32 (a:Int) k' 1 K:=N9 (n:=1) (by decide) hk
theorem cB (w n:Nat):(BitVec.ofInt w (n:Int)).toNat=n%2^w:=by rw[BitVec.toNat_ofInt];omega
theorem AfK {n x y:Nat} (hx:x%2^n=0) (hy:y<2^n):x ||| y=x+y:=by
 have e:x=2^n*(x/2^n):=by have:=Nat.mod_add_div x (2^n);omega
 rw[e,<-Nat.two_pow_add_eq_or_of_lt hy]
theorem YK {k:IntKind} (n:Nat) (hx:a%2^n=0) (hy:b<2^n) (h:a+b<2^k.bits) (hw:k.wrap ((a+b:Nat):Int)=((a+b:Nat):Int)) (hk:K (.int k ((a+b:Nat):Int))):AD .or k (a:Int) k (b:Int) K:=by
 refine VO (v := .int k (k.wrap (BitVec.ofInt k.bits (a:Int) ||| BitVec.ofInt k.bits (b:Int)).toNat)) (by simp only[DG,if_true]) ?_
 rw[BitVec.toNat_or,cB,cB,Nat.mod_eq_of_lt (by omega),Nat.mod_eq_of_lt (by omega),AfK hx hy,hw]
 exact hk
theorem N8 (h:a%4294967296=0/\b<4294967296/\a+b<=18446744073709551615) (hk:K (.int .u64 ((a+b:Nat):Int))):AD .or .u64 (a:Int) .u64 (b:Int) K :=
 YK 32 h.1 h.2.1 (show a+b<18446744073709551616 by omega) (IntWalk.u64_in _ (by omega)) hk
theorem eL (h:a<=18446744073709551615) (hk:K (.int .u64 ((a%4294967296:Nat):Int))):AD .and .u64 (a:Int) .u64 4294967295 K:=by
 refine VO (v := .int .u64 (IntKind.u64.wrap (BitVec.ofInt IntKind.u64.bits (a:Int) &&& BitVec.ofInt IntKind.u64.bits 4294967295).toNat)) (by simp only[DG,if_true]) ?_
 rw[BitVec.toNat_and,cB,show (BitVec.ofInt IntKind.u64.bits 4294967295).toNat=2^32-1 by decide,Nat.and_two_pow_sub_one_eq_mod,show a%2^IntKind.u64.bits=a from Nat.mod_eq_of_lt (show a<18446744073709551616 by omega),IntWalk.u64_in _ (by omega)]
 exact hk
theorem eK (hk:K (.int .u32 (((a+b)%4294967296:Nat):Int))):AD .add .u32 (a:Int) .u32 (b:Int) K :=
 VO (v := .int .u32 (IntKind.u32.wrap ((a:Int)+b))) (by simp only[DG,if_true]) (by rw[<-Int.natCast_add,wrap_u32];exact hk)
end
section
variable {K:Int->Prop} {n:Nat}
theorem eG (h:n<=18446744073709551615) (hk:K (n:Int)):AU .u64 (n:Int) K:=S2 (IntWalk.u64_in _ (by omega)) hk
theorem D8 (h:n<=4294967295) (hk:K (n:Int)):AU .u32 (n:Int) K:=S2 (IntWalk.u32_in _ (by omega)) hk
theorem FH (hk:K ((n%4294967296:Nat):Int)):AU .u32 (n:Int) K:=by unfold AU;rw[wrap_u32];exact hk
theorem uA (h:n<=255) (hk:K (n:Int)):AU .u8 (n:Int) K:=S2 (IntWalk.u8_in _ (by omega)) hk
end
theorem VY {tb:List Nat} {n v:Nat} {K:Nat->Prop} (hv:tb[n]? = some v) (hk:K v):P3 tb (n:Int) K:=⟨by omega,v,by rw[Int.toNat_natCast];exact hv,hk⟩
abbrev AM (n:Nat):List AV:=[.int .u32 (n:Int)]
theorem CU (l:List Nat):FG (l.map AM):=TL (fun _=>by simp [CY,A9]) l
section
variable {l:List Nat} {K:List AV->Prop}
theorem VU {n:Nat} (hD:A5 l) (hn:n<l.length) (h : ∀ e,l[n]? = some e->e<4294967296->K (AM e)):AX (l.map AM) (n:Int) 1 K :=
 uT hn (fun _=>rfl) fun e he=>h e he (hD.at he)
theorem O4 {a:Int} (hD:A5 l) (hn:0<=a/\a<l.length) (h : ∀ e,l[a.toNat]? = some e->e<4294967296->K (AM e)):AX (l.map AM) a 1 K :=
 YO hn (fun _=>rfl) fun e he=>h e he (hD.at he)
theorem eJ {i:Nat} (hD:A5 l) (hi:i<l.length) (h : ∀ e,l[i]? = some e->e<4294967296->K (AM e)):A8 (l.map AM) (0+((i:Int)).toNat) 0 1 K :=
 HI (f:=AM) hi (fun _=>rfl) fun e he=>h e he (hD.at he)
theorem PZ {i:Int} (hD:A5 l) (hi:0<=i/\i<l.length) (h : ∀ e,l[i.toNat]? = some e->e<4294967296->K (AM e)):A8 (l.map AM) (0+i.toNat) 0 1 K :=
 S9 (f:=AM) hi (fun _=>rfl) fun e he=>h e he (hD.at he)
theorem E3 {i v:Nat} {KK:List (List AV)->Prop} (hi:i<l.length) (h:KK ((l.set i v).map AM)):A6 (l.map AM) (0+((i:Int)).toNat) 0 [.int .u32 (v:Int)] KK:=E9 (enc:=AM) v rfl (fun _=>rfl) hi h
theorem VX {i v:Nat} {KK:List (List AV)->Prop} (n:Nat) (hn:i=n) (hi:n<l.length) (h:KK ((l.set n v).map AM)):A6 (l.map AM) i 0 [.int .u32 (v:Int)] KK:=O6 (enc:=AM) n v hn rfl (fun _=>rfl) hi h
end
end Go.Eng
namespace Go.Eng
variable {L:Lib}
theorem Ev.xE {f:Nat} {fn:AFn} {vs:List AV} {P:AV->Prop} (hL:L f=some fn) (hp:Nat.beq vs.length fn.pars=true) (hd:ML vs=true) (h:AA L [.code fn.body] (CZ 0 vs) [] (fun tm M => ∃ r,O5 fn r tm M/\P r)) (hs:fn.spl=false:=by rfl) : ∃ r,Ev L f vs r/\P r:=by
 obtain ⟨n,c,st',hr,σ,tm,M,hR,r,hq,hP⟩:=h (fun _ _=>(0,0)) ⟨CZ 0 vs,AH.emp⟩ ⟨fun j=>Or.inr (by rw[L7];exact TN hd j),⟨(fun _ _ _ e=>by cases e),(fun _ _ _ e=>by simp [mref,mget]at e),(fun _ _ _ e=>by simp [mref,mget]at e),(fun _ _ _ _ _ _ e=>by simp [mref,mget]at e),(fun _ _ _ e=>by simp [mref,mget]at e)⟩⟩
 exact ⟨r,Ev.fwd hL (BP.1 hp) ⟨n,c,st',hr,fA hR hq⟩ hs,hP⟩
def SI:D7->Bool
 | .vrow .. | .box .. | .alloc .. | .bslice .. | .st .. | .mk .. | .app .. | .cpy .. | .calli .. | .callv .. | .sto .. | .callr .. | .appo .. | .apz .. | .apd .. | .cals .. => false
 | _=>true
def HV:AL->Bool
 | .skip=>true
 | .ops l _=>l.all fun a=>SI a.op
 | .dr c _ ss=>HV c&&ss.isEmpty
 | .scope c=>HV c
 | .seq a b=>HV a&&HV b
 | .cond _ a b=>HV a&&HV b
 | .block _ c=>HV c
 | .loop c=>HV c
 | .exit _=>true
 | .ret=>true
def OM:It->Bool
 | .code c=>HV c
 | .drp _ ss=>ss.isEmpty
 | .blk _=>true
 | .lp c=>HV c
theorem AaF {C:Cl} {ban:List Nat} {ρ:AQ->AV} {own:AH} {op:D7} {E:CP} (ho:SI op=true) (h:eff C ban ρ own op=some E) : ∃ v,E = .val v:=by
 cases op<;>first|(simp [SI]at ho;done)|skip
 all_goals simp only[eff]at h
 all_goals
  first
   | (simp only[Option.some.injEq]at h;exact ⟨_,h.symm⟩)
   | (simp only[Option.map_eq_some_iff]at h;obtain ⟨_,_,rfl⟩:=h;exact ⟨_,rfl⟩)
   | skip
 all_goals (repeat' split at h)
 all_goals
  first
   | (cases h;done)
   | (simp only[Option.some.injEq]at h;exact ⟨_,h.symm⟩)
   | (simp only[Option.map_eq_some_iff]at h;obtain ⟨_,_,rfl⟩:=h;exact ⟨_,rfl⟩)
theorem AgG {C:Cl} {a:AI} (ho:SI a.op=true) {s s':St} (h:DB C a s=some s'):s'.own=s.own:=by
 unfold DB at h
 split at h
 ·cases he:eff C a.ban s.ev s.own a.op with
  | none=>rw[he]at h;cases h
  | some E =>
   rw[he]at h
   obtain ⟨v,rfl⟩:=AaF ho he
   simp only[Option.map_some,Option.some.injEq]at h
   subst h
   simp only[St.app]
   cases a.dst<;>rfl
 ·simp only[Option.some.injEq]at h
  subst h
  cases a.dst<;>rfl
 ·cases h
theorem rJ {C:Cl} : ∀ {l:List AI},(l.all fun a=>SI a.op)=true -> ∀ {s s':St},DC C l s=some s'->s'.own=s.own
 | [],_,s,s',h=>by simp only[DC,Option.some.injEq]at h;rw[h]
 | a::l,ho,s,s',h=>by
  simp only[List.all_cons,Bool.and_eq_true]at ho
  simp only[DC]at h
  cases h1:DB C a s with
  | none=>rw[h1]at h;cases h
  | some s1 =>
   rw[h1]at h
   rw[rJ ho.2 h,AgG ho.1 h1]
theorem UA {id:Nat} : ∀ {k k':List It},k.all OM=true->DP id k=some k'->k'.all OM=true
 | [],_,_,h=>by simp [DP]at h
 | it::k,k',hk,h=>by
  simp only[List.all_cons,Bool.and_eq_true]at hk
  cases it with
  | blk i =>
   simp only[DP]at h
   split at h
   ·cases h;exact hk.2
   ·exact UA hk.2 h
  | code c=>simp only[DP]at h;exact UA hk.2 h
  | drp a b=>simp only[DP]at h;exact UA hk.2 h
  | lp c=>simp only[DP]at h;exact UA hk.2 h
theorem ID {C:Cl} : ∀ (n:Nat) {k:List It},k.all OM=true -> ∀ {s s':St},run C n k s=some s'->s'.own=s.own
 | 0,k,_,s,s',h=>by simp [run]at h
 | n+1,[],_,s,s',h=>by
  simp only[run,Option.some.injEq]at h
  rw[h]
 | n+1,it::k,hk,s,s',h=>by
  have hk':=hk
  simp only[List.all_cons,Bool.and_eq_true]at hk
  obtain ⟨hi,hk⟩:=hk
  cases it with
  | blk _=>simp only[run]at h;exact ID n hk h
  | drp ts ss =>
   have:ss=[]:=by simpa [OM] using hi
   subst this
   simp only[run]at h
   rw[ID n hk h];rfl
  | lp c=>simp only[run]at h;exact ID n (by simp only[List.all_cons,Bool.and_eq_true];exact ⟨hi,hi,hk⟩) h
  | code c =>
   cases c with
   | skip=>simp only[run]at h;exact ID n hk h
   | ops l d =>
    simp only[run]at h
    cases h1:DC C l s with
    | none=>rw[h1]at h;cases h
    | some s1 =>
     rw[h1]at h
     rw[ID n hk h,rJ (show (l.all fun a=>SI a.op)=true from hi) h1]
   | dr c ts ss =>
    simp only[run]at h
    simp only[OM,HV,Bool.and_eq_true]at hi
    exact ID n (by simp only[List.all_cons,Bool.and_eq_true];exact ⟨hi.1,hi.2,hk⟩) h
   | scope c=>simp only[run]at h;exact ID n (by simp only[List.all_cons,Bool.and_eq_true];exact ⟨hi,hk⟩) h
   | seq a b =>
    simp only[run]at h
    simp only[OM,HV,Bool.and_eq_true]at hi
    exact ID n (by simp only[List.all_cons,Bool.and_eq_true];exact ⟨hi.1,hi.2,hk⟩) h
   | cond x a b =>
    simp only[OM,HV,Bool.and_eq_true]at hi
    simp only[run]at h
    split at h
    ·exact ID n (by simp only[List.all_cons,Bool.and_eq_true];exact ⟨hi.1,hk⟩) h
    ·exact ID n (by simp only[List.all_cons,Bool.and_eq_true];exact ⟨hi.2,hk⟩) h
    ·cases h
   | block id c=>simp only[run]at h;exact ID n (by simp only[List.all_cons,Bool.and_eq_true];exact ⟨hi,rfl,hk⟩) h
   | loop c=>simp only[run]at h;exact ID n (by simp only[List.all_cons,Bool.and_eq_true];exact ⟨hi,hi,hk⟩) h
   | exit id =>
    simp only[run]at h
    split at h
    ·rename_i k' he
     exact ID n (UA hk he) h
    ·cases h
   | ret =>
    simp only[run,Option.some.injEq]at h
    rw[h]
def uV (fn:AFn) (r:AV) (tm:Tm) (_M:Mem):Prop := ∃ rs,PJ tm fn.res=some rs/\HP rs=r
def WM:AV->Bool
 | .tup vs=>ML vs
 | v=>O9 v
theorem iO {σ:FJ} {v:AV} (h:WM v=true):BJ σ v=v:=by
 cases v with
 | tup vs =>
  simp only[BJ]
  congr 1
  simp only[WM]at h
  induction vs with
  | nil=>rfl
  | cons v r ih =>
   simp only[ML]at h
   cases hv:O9 v<;>simp only[hv,cond_true,cond_false]at h
   ·cases h
   ·rw[List.map_cons,ih h]
    congr 1
    cases v<;>first|rfl|(simp [O9,dat]at hv;done)|skip
    rename_i cs
    exact WL (σ:=σ) (v := .agg cs) hv
 | _=>exact WL (σ:=σ) h
def TC (L:Lib) (f:Nat) (vs:List AV) (r:AV):Prop:=WM r=true/\(∀ σ:FJ,vs.map (BJ σ)=vs) /\ ∀ own:AH,GC L f vs own r own
theorem iM {σ:FJ} : ∀ {vs:List AV},ML vs=true->vs.map (BJ σ)=vs
 | [],_=>rfl
 | v::r,h=>by
  simp only[ML]at h
  cases hv:O9 v<;>simp only[hv,cond_true,cond_false]at h
  ·cases h
  ·rw[List.map_cons,WL hv,iM h]
theorem uW {f:Nat} {fn:AFn} {vs:List AV} {r:AV} (hL:L f=some fn) (hp:Nat.beq vs.length fn.pars=true) (hd:ML vs=true) (hro:HV fn.body=true) (hlt:UZ 100000 fn.res=true) (hr:WM r=true) (h:AA L [.code fn.body] (CZ 0 vs) [] (uV fn r)):TC L f vs r:=by
 refine ⟨hr,fun σ=>iM hd,fun own => ?_⟩
 obtain ⟨n,c,st',hrun,σ,tm,M,hR,rs,hrs,he⟩:=h (fun _ _=>(0,0)) ⟨CZ 0 vs,own⟩ ⟨fun j=>Or.inr (by rw[L7];exact TN hd j),⟨(fun _ _ _ e=>by cases e),(fun _ _ _ e=>by simp [mref,mget]at e),(fun _ _ _ e=>by simp [mref,mget]at e),(fun _ _ _ _ _ _ e=>by simp [mref,mget]at e),(fun _ _ _ e=>by simp [mref,mget]at e)⟩⟩
 have ho:=ID n (by simp [OM,hro]) hrun
 obtain ⟨i1,i2⟩:=cQ (N:=100000) (s:=st') hR (fun _ _=>rfl) hlt hrs
 refine GC.intro hL (BP.1 hp) ⟨n,c,st',hrun,?_,ho⟩
 rw[i1,Option.map_some,pN i2,he,iO hr]
theorem MH {f:Nat} {vs:List AV} {r:AV} {tm:Tm} {M:Mem} {K:AV->Mem->Prop} (h:TC L f vs r) (hk:K r M):A7 L f vs tm M K:=by
 intro σ own hs
 refine ⟨r,own,σ,M,?_,hs,fun _=>rfl,hk⟩
 rw[h.2.1 σ,iO h.1]
 exact h.2.2 own
end Go.Eng

namespace Go.Eng
theorem sH {A w C:List Nat} {i n:Nat} (hi:i=A.length+n) (hn:n<w.length):(A++w++C)[i]? = w[n]? := by
 subst hi
 rw[List.append_assoc,List.getElem?_append_right (by omega),Nat.add_sub_cancel_left,List.getElem?_append_left hn]
theorem Ag5 {A w C:List Nat} {i n v:Nat} (hi:i=A.length+n) (hn:n<w.length):(A++w++C).set i v=A++w.set n v++C:=by
 subst hi
 rw[List.append_assoc,List.set_append_right _ _ (by omega),Nat.add_sub_cancel_left,List.set_append_left _ _ hn,List.append_assoc]
theorem NP {A w C:List Nat} {i v:Nat} {KK:List (List AV)->Prop} (n:Nat) (hi:i=A.length+n) (hn:n<w.length) (h:KK ((A++w.set n v++C).map AM)):A6 ((A++w++C).map AM) i 0 [.int .u32 (v:Int)] KK:=by
 have hl:i<(A++w++C).length:=by simp;omega
 refine O6 (enc:=AM) i v rfl rfl (fun _=>rfl) hl ?_
 rw[Ag5 hi hn]
 exact h
theorem Adn {W X Vi p q u d c b pr t:Nat} (h:W+q*Vi=X+p*(c+b)) (hpr:pr=q*d+c) (ht:t=EF (EF u (pr%4294967296)) b) (hu:u<4294967296) (hb:b<=1) :
  W+p*(t%4294967296)+q*(Vi+p*d)=X+p*u+p*4294967296*(pr/4294967296+t/9223372036854775808):=by
 obtain ⟨h1,_⟩:=X4 hu (show pr%4294967296<4294967296 by omega) hb
 rw[<-ht]at h1
 have h2:=Nat.mod_add_div pr 4294967296
 generalize t%4294967296=w at *
 generalize t/9223372036854775808=b' at *
 generalize pr%4294967296=pl at *
 generalize pr/4294967296=ph at *
 have e1:p*(w+pl+b)=p*(u+4294967296*b'):=by rw[h1]
 have e2:p*(pl+4294967296*ph)=p*(q*d+c):=by rw[h2,hpr]
 grind
theorem nX {q d c pr:Nat} (hq:q<4294967296) (hd:d<4294967296) (hc:c<4294967296) (hpr:pr=q*d+c):pr/4294967296<4294967296/\pr<=18446744073709551615/\q*d<=18446744065119617025:=by
 have:=SG hq hd
 omega
theorem Adl {W X V p q u c b t:Nat} (h:W+q*V=X+p*(c+b)) (ht:t=EF (EF u c) b) (hu:u<4294967296) (hc:c<4294967296) (hb:b<=1) :
  W+p*(t%4294967296)+q*V=X+p*u+p*4294967296*(t/9223372036854775808):=by
 obtain ⟨h1,_⟩:=X4 hu hc hb
 rw[<-ht]at h1
 generalize t%4294967296=w at *
 generalize t/9223372036854775808=b' at *
 have e1:p*(w+c+b)=p*(u+4294967296*b'):=by rw[h1]
 grind
theorem Ado {W X Vi p q u d c b pr w take have' bw':Nat} (h:W+q*Vi=X+p*(c+b)) (hpr:pr=c+q*d) (h1:take=pr%4294967296+b) (h2:(have'=u/\bw'=0/\take<=u)\/(have'=u+4294967296/\bw'=1/\u<take)) (h3:w+take=have') :
  W+p*w+q*(Vi+p*d)=X+p*u+p*4294967296*(pr/4294967296+bw'):=by
 have h4:=Nat.mod_add_div pr 4294967296
 have h5:w+pr%4294967296+b=u+4294967296*bw':=by omega
 generalize pr%4294967296=pl at *
 generalize pr/4294967296=ph at *
 have e1:p*(w+pl+b)=p*(u+4294967296*bw'):=by rw[h5]
 have e2:p*(pl+4294967296*ph)=p*(c+q*d):=by rw[h4,hpr]
 grind
theorem Adm {W X V p q u c b w take have' bw':Nat} (h:W+q*V=X+p*(c+b)) (h1:take=c+b) (h2:(have'=u/\bw'=0/\take<=u)\/(have'=u+4294967296/\bw'=1/\u<take)) (h3:w+take=have') :
  W+p*w+q*V=X+p*u+p*4294967296*bw':=by
 have h5:w+c+b=u+4294967296*bw':=by omega
 have e1:p*(w+c+b)=p*(u+4294967296*bw'):=by rw[h5]
 grind
theorem fH {W X Vi p w d c t:Nat} (h:W+p*c=X+Vi) (ht:t=w+d+c):W+p*(t%4294967296)+p*4294967296*(t/4294967296)=X+p*w+(Vi+p*d):=by
 have h1:=OD W p t
 have e:p*t=p*w+p*d+p*c:=by rw[ht];grind
 omega
theorem fG {W X V R p w c:Nat} (h:W+p*c=X+V) (hX:X+p*w+V=R+p*4294967296) (hR:R<p*4294967296) (hW:W<p):W+p*((w+c)%4294967296)=R:=by
 have h1:W+p*(w+c)=R+p*4294967296:=by
  rw[Nat.mul_add];omega
 have h2:=Nat.mod_add_div (w+c) 4294967296
 have h3:p*(w+c)=p*((w+c)%4294967296)+p*4294967296*((w+c)/4294967296):=by
  rw[Nat.mul_assoc,<-Nat.mul_add,h2]
 have h4:(w+c)%4294967296<4294967296:=Nat.mod_lt _ (by omega)
 generalize (w+c)%4294967296=m at *
 generalize (w+c)/4294967296=k at *
 have h5:W+p*m<p*4294967296:=by
  have:p*m+p<=p*4294967296:=by rw[<-Nat.mul_succ];exact Nat.mul_le_mul_left p (by omega)
  omega
 have h6:k=1:=by
  rcases Nat.lt_trichotomy k 1 with hk|hk|hk
  ·have:k=0:=by omega
   subst this
   omega
  ·exact hk
  ·have:p*4294967296*2<=p*4294967296*k:=Nat.mul_le_mul_left _ (by omega)
   omega
 subst h6
 omega
theorem AgU {U V UL VL p u2 v2 v1 top:Nat} (hU:U=UL+p*(u2+4294967296*top)) (hV:V=VL+p*(v2+4294967296*v1)) (hVl:VL<p) (h2:v2<4294967296) (h:U<4294967296*V):top<4294967296*(v1+1):=by
 have h3:V<p*(4294967296*(v1+1)):=by
  have:p*(v2+4294967296*v1)+p<=p*(4294967296*(v1+1)):=by
   rw[<-Nat.mul_succ];exact Nat.mul_le_mul_left p (by omega)
  omega
 have h4:p*(4294967296*top)<=U:=by
  have:p*(4294967296*top)<=p*(u2+4294967296*top):=Nat.mul_le_mul_left p (by omega)
  omega
 have h5:p*(4294967296*top)<p*(4294967296*(4294967296*(v1+1))):=by
  have:p*(4294967296*(4294967296*(v1+1)))=4294967296*(p*(4294967296*(v1+1))):=by grind
  omega
 have:=Nat.lt_of_mul_lt_mul_left h5
 omega
structure Gs (U V v1 v2 u2 top q r:Nat):Prop where
 hq:q*v1+r=top
 hr:r<4294967296
 ge:U/V<=q
theorem Gs.next {U V UL VL p v1 v2 u2 top q r:Nat} (g:Gs U V v1 v2 u2 top q r) (hU:U=UL+p*(u2+4294967296*top)) (hV:V=VL+p*(v2+4294967296*v1)) (hUl:UL<p) (hV0:0<V) (hUV:U<4294967296*V)
  (h:4294967296<=q\/r*4294967296+u2<q*v2):1<=q/\(q-1)*v1+(r+v1)=top/\U/V<=q-1:=by
 have h1:U/V<q:=by
  rcases h with h|h
  ·exact AbW hUV h hV0
  ·exact AbX hU hV hUl g.hq h hV0
 have hq:=g.hq
 clear h g hU hV hUV
 generalize U/V=Q at *
 obtain ⟨k,rfl⟩ : ∃ k,q=k+1:=⟨q-1,by omega⟩
 refine ⟨by omega,?_,by omega⟩
 rw[Nat.add_sub_cancel,<-hq,Nat.add_mul]
 omega
theorem Gs.start {U V UL VL p v1 v2 u2 top:Nat} (hU:U=UL+p*(u2+4294967296*top)) (hV:V=VL+p*(v2+4294967296*v1)) (hUl:UL<p) (h2:u2<4294967296) (hV0:0<V) (h1:0<v1) (h1b:v1<4294967296):Gs U V v1 v2 u2 top (top/v1) (top%v1):=by
 refine ⟨by rw[Nat.mul_comm];exact Nat.div_add_mod _ _,?_,?_⟩
 ·have:=Nat.mod_lt top h1
  omega
 ·rw[Nat.le_div_iff_mul_le h1]
  exact AbY hU hV hUl h2 hV0
theorem R8 {U V UL VL p v1 v2 u2 top q r:Nat} (hU:U=UL+p*(u2+4294967296*top)) (hV:V=VL+p*(v2+4294967296*v1)) (hVl:VL<p) (hv1:2147483648<=v1) (hv2:v2<4294967296) (hUV:U<4294967296*V) (hq:q*v1+r=top)
  (h:(q<4294967296/\q*v2<=r*4294967296+u2)\/4294967296<=r):q<4294967296/\q<=U/V+1:=by
 rcases h with ⟨h1,h2⟩|h
 ·exact ⟨h1,mC hU hV hVl hv1 hq h2 h1⟩
 ·have ht:=AgU hU hV hVl hv2 hUV
  have hqb:q<4294967296:=by
   have h3:q*v1<4294967296*v1:=by omega
   exact Nat.lt_of_mul_lt_mul_right h3
  refine ⟨hqb,mC hU hV hVl hv1 hq ?_ hqb⟩
  have:=SG hqb hv2
  omega
theorem RA (a:List Nat) (k:Nat):val a=val (a.take k)+4294967296^k*val (a.drop k):=by
 rcases Nat.lt_or_ge a.length k with h|h
 ·rw[List.take_of_length_le (by omega),List.drop_of_length_le (by omega),IJ];omega
 ·exact L9 a k h
theorem Q9 (a:List Nat) (k:Nat):val (a.drop k)=a.getD k 0+4294967296*val (a.drop (k+1)):=by
 rcases Nat.lt_or_ge k a.length with h|h
 ·rw[GZ (zE h),List.getD_eq_getElem?_getD,zE h];rfl
 ·rw[List.drop_of_length_le h,List.drop_of_length_le (by omega),List.getD_eq_getElem?_getD,List.getElem?_eq_none h];rfl
theorem PD {a:List Nat} (h:A5 a) (k:Nat):a.getD k 0<4294967296:=by
 rw[List.getD_eq_getElem?_getD]
 cases e:a[k]? with
 | none=>simp
 | some d=>simpa using h.at e
theorem getD_some {a:List Nat} {k d:Nat} (h:a[k]? = some d):d=a.getD k 0:=by rw[List.getD_eq_getElem?_getD,h];rfl
theorem PE {a:List Nat} {k:Nat} (h:a.length<=k):0=a.getD k 0:=by rw[List.getD_eq_getElem?_getD,List.getElem?_eq_none h];rfl
theorem YB {a:List Nat} (hD:A5 a) {n:Nat} (hn:3<=n) (hl:a.length<=n) : ∃ r,r<4294967296^(n-3)/\val a=r+4294967296^(n-3)*(a.getD (n-3) 0+4294967296*(a.getD (n-2) 0+4294967296*a.getD (n-1) 0)):=by
 refine ⟨val (a.take (n-3)),?_,?_⟩
 ·refine Nat.lt_of_lt_of_le (EV (hD.take _)) (Nat.pow_le_pow_right (by omega) ?_)
  rw[List.length_take];omega
 ·have h1:=RA a (n-3)
  have h2:=Q9 a (n-3)
  have h3:=Q9 a (n-3+1)
  have h4:=Q9 a (n-3+1+1)
  rw[List.drop_of_length_le (show a.length<=n-3+1+1+1 by omega),IJ]at h4
  rw[show n-3+1=n-2 by omega]at *
  rw[show n-2+1=n-1 by omega]at *
  rw[h4,Nat.mul_zero,Nat.add_zero]at h3
  rw[h3]at h2
  rw[h2]at h1
  exact h1
theorem sE {a:List Nat} (hD:A5 a) {n:Nat} (hn:2<=n) (hl:a.length<=n) : ∃ r,r<4294967296^(n-2)/\val a=r+4294967296^(n-2)*(a.getD (n-2) 0+4294967296*a.getD (n-1) 0):=by
 refine ⟨val (a.take (n-2)),?_,?_⟩
 ·refine Nat.lt_of_lt_of_le (EV (hD.take _)) (Nat.pow_le_pow_right (by omega) ?_)
  rw[List.length_take];omega
 ·have h1:=RA a (n-2)
  have h2:=Q9 a (n-2)
  have h3:=Q9 a (n-2+1)
  rw[List.drop_of_length_le (show a.length<=n-2+1+1 by omega),IJ]at h3
  rw[show n-2+1=n-1 by omega]at *
  rw[h3,Nat.mul_zero,Nat.add_zero]at h2
  rw[h2]at h1
  exact h1
theorem PA {a b:Nat} (h:a<=b):(dg a).length<=(dg b).length:=by
 rcases Nat.lt_or_ge (dg b).length (dg a).length with h1|h1
 ·have:=SZ h1;omega
 ·exact h1
theorem ZC {p:Nat} (h:p<18446744073709551616):val [p%4294967296,p/4294967296]=p/\A5 [p%4294967296,p/4294967296]:=by
 refine ⟨by simp [val];omega,fun x hx => ?_⟩
 simp at hx
 omega
theorem GG {a:List Nat} {k d:Nat} (h:a[k]? = some d):a.getD k 0=d:=(getD_some h).symm
theorem bG {y:List Nat} {s yt:Nat} (hD:A5 y) (hyt:y[y.length-1]? = some yt) (hl:1<=y.length) (hs:s<=31) (b3:2147483648<=yt*2^s) (b4:yt*2^s<4294967296):val y*2^s<4294967296^y.length/\4294967296^(y.length-1)*2147483648<=val y*2^s:=by
 have h1:=L9 y (y.length-1) (by omega)
 have h2:=GZ hyt
 rw[List.drop_of_length_le (show y.length<=y.length-1+1 by omega),IJ,Nat.mul_zero,Nat.add_zero]at h2
 rw[h2]at h1
 have h3:=EV (hD.take (y.length-1))
 rw[List.length_take,Nat.min_eq_left (by omega)]at h3
 have e:4294967296^y.length=4294967296^(y.length-1)*4294967296:=by rw[<-Nat.pow_succ,Nat.succ_eq_add_one,show y.length-1+1=y.length by omega]
 rw[e]
 generalize 4294967296^(y.length-1)=p at *
 have hk:(yt+1)*2^s<=4294967296:=by
  have e2:4294967296=2^s*2^(32-s):=by rw[<-Nat.pow_add,show s+(32-s)=32 by omega]
  rw[e2,Nat.mul_comm]at b4
  have:=Nat.lt_of_mul_lt_mul_left b4
  rw[e2,Nat.mul_comm]
  exact Nat.mul_le_mul_left _ this
 have h4:val y+1<=p*(yt+1):=by rw[Nat.mul_add];omega
 have h5:=Nat.mul_le_mul_right (2^s) h4
 have h6:p*((yt+1)*2^s)<=p*4294967296:=Nat.mul_le_mul_left p hk
 rw[<-Nat.mul_assoc]at h6
 have h7:p*2147483648<=p*(yt*2^s):=Nat.mul_le_mul_left p b3
 have h8:p*(yt*2^s)<=val y*2^s:=by rw[<-Nat.mul_assoc];exact Nat.mul_le_mul_right _ (by omega)
 have h9:=Nat.two_pow_pos s
 rw[Nat.add_mul]at h5
 exact ⟨by omega,by omega⟩
theorem rW {v:List Nat} {k c d:Nat} (hD:A5 v) (hl:v.length=k+1) (h:4294967296^k*c<=val v) (hd:v[k]? = some d):c<=d:=by
 have h1:=L9 v k (by omega)
 have h2:=GZ hd
 rw[List.drop_of_length_le (show v.length<=k+1 by omega),IJ,Nat.mul_zero,Nat.add_zero]at h2
 rw[h2]at h1
 have h3:=EV (hD.take k)
 rw[List.length_take,Nat.min_eq_left (by omega)]at h3
 generalize 4294967296^k=p at *
 have h4:p*c<p*(d+1):=by rw[Nat.mul_add];omega
 have:=Nat.lt_of_mul_lt_mul_left h4
 omega
theorem jL (o:List Nat) (j n:Nat) (h:j+n<=o.length) : ∃ A W C,A.length=j/\W.length=n/\o=A++W++C:=by
 refine ⟨o.take j,(o.drop j).take n,(o.drop j).drop n,by simp;omega,by simp;omega,?_⟩
 rw[List.append_assoc,List.take_append_drop,List.take_append_drop]
theorem iQ {A W C:List Nat} (h:A5 (A++W++C)):A5 A/\A5 W/\A5 C:=by
 refine ⟨fun x hx=>h x (by simp [hx]),fun x hx=>h x (by simp [hx]),fun x hx=>h x (by simp [hx])⟩
theorem jN {A W C:List Nat} {j l V:Nat} (hA:A.length=j) (hW:W.length=l+1) (hD:A5 (A++W++C)) (h:val ((A++W++C).drop (j+1))<V) (hV:V<4294967296^l) :
  val C=0/\val W<4294967296*V/\val ((A++W++C).take (j+1))+4294967296^(j+1)*val ((A++W++C).drop (j+1))=val A+4294967296^j*val W:=by
 have h1:=RA (A++W++C) (j+1)
 have h2:val (A++W++C)=val A+4294967296^j*(val W+4294967296^(l+1)*val C):=by
  rw[List.append_assoc,SY,SY,hA,hW]
 have h3:=Q9 (A++W++C) j
 have h4:(A++W++C).drop j=W++C:=by
  rw[List.append_assoc,List.drop_append_of_le_length (by omega),List.drop_of_length_le (by omega)];rfl
 have h5:=PD hD j
 rw[h4,SY,hW]at h3
 rw[Nat.pow_succ]at h3
 have h6:val C=0:=by
  rcases Nat.eq_zero_or_pos (val C) with h0|h0
  ·exact h0
  ·have:4294967296^l*4294967296*1<=4294967296^l*4294967296*val C:=Nat.mul_le_mul_left _ h0
   omega
 rw[h6,Nat.mul_zero,Nat.add_zero]at h3
 refine ⟨h6,by omega,?_⟩
 rw[<-h1,h2,h6,Nat.mul_zero,Nat.add_zero]
theorem ZQ {A W C:List Nat} {j:Nat} (hA:A.length=j) (hC:val C=0):val ((A++W++C).drop j)=val W/\val ((A++W++C).take j)=val A:=by
 rw[List.append_assoc,List.drop_append_of_le_length (by omega),List.drop_of_length_le (by omega),List.take_append_of_le_length (by omega),List.take_of_length_le (by omega),List.nil_append,SY,hC]
 simp
theorem jM {U VA P Q q V W R:Nat} (h:U=VA+P*W+P*4294967296*(Q*V)) (h2:W=q*V+R):U=VA+P*((q+4294967296*Q)*V+R):=by
 rw[h,h2];grind
section
variable {a b:Nat} {K:AV->Prop}
theorem eN (n:Nat) (hx:a%2^n=0) (hy:b<2^n) (h:a+b<=18446744073709551615) (hk:K (.int .u64 ((a+b:Nat):Int))):AD .or .u64 (a:Int) .u64 (b:Int) K :=
 YK n hx hy (show a+b<18446744073709551616 by omega) (IntWalk.u64_in _ (by omega)) hk
theorem VQ (n:Nat) (hx:b%2^n=0) (hy:a<2^n) (h:a+b<=18446744073709551615) (hk:K (.int .u64 ((a+b:Nat):Int))):AD .or .u64 (a:Int) .u64 (b:Int) K:=by
 have e:DG .or .u64 (a:Int) .u64 (b:Int)=DG .or .u64 (b:Int) .u64 (a:Int):=by
  simp only[DG,if_true,BitVec.or_comm]
 rw[Nat.add_comm]at hk h
 have hh:=eN (K:=K) n hx hy h hk
 unfold AD at hh ⊢
 rw[e]
 exact hh
end
theorem VP {a:Nat} {K:AV->Prop} (h:a<=18446744069414584319) (hk:K (.int .u64 ((a+4294967296:Nat):Int))):AD .add .u64 (a:Int) .u64 4294967296 K :=
 FQ (b:=4294967296) (by omega) hk
theorem I5 {l:List Nat} {i e:Nat} {K:List AV->Prop} (he:l[i]? = some e) (h:K (AM e)):A8 (l.map AM) (0+((i:Int)).toNat) 0 1 K :=
 VN (e:=e) (by rw[Nat.zero_add,Int.toNat_natCast];exact he) rfl h
theorem uH {l:List Nat} {i:Int} {e:Nat} {K:List AV->Prop} (he:l[i.toNat]? = some e) (h:K (AM e)):A8 (l.map AM) (0+i.toNat) 0 1 K :=
 VN (e:=e) (by rw[Nat.zero_add];exact he) rfl h
theorem O3 {A w C:List Nat} {i e:Nat} {K:List AV->Prop} (n:Nat) (he:w[n]? = some e) (hi:i=A.length+n) (h:K (AM e)):A8 ((A++w++C).map AM) i 0 1 K:=by
 have hn:=(zS he).1
 exact VN (e:=e) (by rw[sH hi hn];exact he) rfl h
end Go.Eng

namespace Go.Eng
def SA (n s:Nat):Nat:=4294967296^(n-3)*(2^(32-s)*4)
theorem Ac4 (n s:Nat):0<SA n s:=Nat.mul_pos (Nat.pow_pos (by omega)) (Nat.mul_pos (Nat.two_pow_pos _) (by omega))
theorem mW {a:List Nat} (hD:A5 a) {n s d1 d2 d3:Nat} (hn:3<=n) (hl:a.length<=n) (hs:s<=31) (h1:d1=a.getD (n-1) 0) (h2:d2=a.getD (n-2) 0) (h3:d3=a.getD (n-3) 0) :
  ((d1*4294967296+d2)*2^s+d3*2^s/4294967296)/4=val a/SA n s:=by
 obtain ⟨r,hr,hv⟩:=YB hD hn hl
 rw[<-h1,<-h2,<-h3]at hv
 unfold SA
 rw[hv,<-Nat.div_div_eq_div_mul,Nat.add_mul_div_left _ _ (Nat.pow_pos (by omega)),Nat.div_eq_of_lt hr,Nat.zero_add,<-Nat.div_div_eq_div_mul]
 congr 1
 have e:d3+4294967296*(d2+4294967296*d1)=d3+2^(32-s)*(2^s*(d1*4294967296+d2)):=by
  rw[<-Nat.mul_assoc,<-Nat.pow_add,show 32-s+s=32 by omega];omega
 rw[e,Nat.add_mul_div_left _ _ (Nat.two_pow_pos _)]
 have:=qI (d:=d3) (s:=s) (by omega)
 rw[Q4]at this
 rw[this,Nat.mul_comm (2^s)]
 omega
theorem mX {a:List Nat} (hD:A5 a) {n s d1 d2:Nat} (hn:3<=n) (hl:a.length<=n) (h1:d1=a.getD (n-1) 0) (h2:d2=a.getD (n-2) 0) (hlt:val a*2^s<4294967296^n) :
  (d1*4294967296+d2)*2^s<=18446744073709551615:=by
 obtain ⟨r,hr,hv⟩:=YB hD hn hl
 rw[<-h1,<-h2]at hv
 generalize a.getD (n-3) 0=d3 at *
 have e:4294967296^n=4294967296^(n-3)*(4294967296*18446744073709551616):=by
  rw[show n=n-3+3 by omega,Nat.pow_add,show n-3+3-3=n-3 by omega]
 rw[e,hv]at hlt
 generalize 4294967296^(n-3)=p at *
 have h3:p*(4294967296*((d1*4294967296+d2)*2^s))<p*(4294967296*18446744073709551616):=by
  refine Nat.lt_of_le_of_lt ?_ hlt
  rw[<-Nat.mul_assoc,<-Nat.mul_assoc]
  refine Nat.mul_le_mul_right _ ?_
  have h5:p*(4294967296*(d2+4294967296*d1))<=p*(d3+4294967296*(d2+4294967296*d1)):=Nat.mul_le_mul_left p (by omega)
  rw[Nat.mul_assoc,show d1*4294967296+d2=d2+4294967296*d1 by omega]
  omega
 have:=Nat.lt_of_mul_lt_mul_left (Nat.lt_of_mul_lt_mul_left h3)
 omega
theorem W8 {k s:Nat} (hs:s<=64) (h:k*2^s<=18446744073709551615):k*2^s+2^s<=18446744073709551616:=by
 have e:18446744073709551616=2^(64-s)*2^s:=by rw[<-Nat.pow_add,show 64-s+s=64 by omega]
 have h1:k<2^(64-s):=by
  refine Nat.lt_of_mul_lt_mul_right (a:=2^s) ?_
  rw[<-e];omega
 have h2:=Nat.mul_le_mul_right (2^s) h1
 rw[Nat.succ_mul,<-e]at h2
 exact h2
theorem mY {a:List Nat} (hD:A5 a) {n s:Nat} (hn:3<=n) (hl:a.length<=n) (hs:s<=31) (hlt:val a*2^s<4294967296^n):val a/SA n s<=4611686018427387904:=by
 rw[<-mW hD hn hl hs rfl rfl rfl]
 have h1:=mX hD hn hl rfl rfl hlt
 have b3:=PD hD (n-3)
 have h2:=W8 (show s<=64 by omega) h1
 obtain ⟨_,h3,_,_⟩:=Q5 (s:=s) b3 (by omega)
 rw[Q4]at h3
 generalize (a.getD (n-1) 0*4294967296+a.getD (n-2) 0)*2^s=T at *
 generalize a.getD (n-3) 0*2^s=U at *
 omega
theorem mZ {V K:Nat} (hK:0<K) : ∃ e:Int,(V:Int)=(K:Int)*((V/K:Nat):Int)+e/\0<=e/\e<=K:=by
 refine ⟨((V%K:Nat):Int),?_,by omega,?_⟩
 ·have:=Nat.div_add_mod V K
  have h2:((K*(V/K)+V%K:Nat):Int)=(V:Int):=by rw[this]
  rw[<-h2];simp
 ·have:=Nat.mod_lt V hK
  omega
def TM (t:Int):Nat:=(t%4294967296).toNat
theorem gQ (t:Int):TM t<4294967296:=by unfold TM;omega
theorem Y6 (t:Int):(TM t:Int)=t%4294967296:=by unfold TM;omega
def O1 (f g:Int):Prop:=(0<=f/\f<=2147483647 /\ -2147483647<=g/\g<=0)\/(-2147483647<=f/\f<=0/\0<=g/\g<=2147483647)
theorem qH {f:Int} {d:Nat} (hd:d<4294967296):(0<=f->f<=2147483647->0<=f*d/\f*d<=9223372030412324865)/\(f<=0 -> -2147483647<=f->f*d<=0 /\ -9223372030412324865<=f*d):=by
 constructor
 ·intro h0 h1
  refine ⟨Int.mul_nonneg h0 (by omega),?_⟩
  have:f*d<=2147483647*4294967295:=Int.mul_le_mul h1 (by omega) (by omega) (by omega)
  omega
 ·intro h0 h1
  have a1:0<=(-f)*d:=Int.mul_nonneg (by omega) (by omega)
  have a2:(-f)*d<=2147483647*4294967295:=Int.mul_le_mul (by omega) (by omega) (by omega) (by omega)
  rw[Int.neg_mul]at a1 a2
  omega
theorem O1.rng {f g:Int} (h:O1 f g) {d e:Nat} (hd:d<4294967296) (he:e<4294967296):(-9223372030412324865<=f*d/\f*d<=9223372030412324865)/\(-9223372030412324865<=g*e/\g*e<=9223372030412324865) /\ -9223372030412324865<=f*d+g*e/\f*d+g*e<=9223372030412324865:=by
 obtain ⟨a1,a2⟩:=qH (f:=f) hd
 obtain ⟨b1,b2⟩:=qH (f:=g) he
 rcases h with ⟨h1,h2,h3,h4⟩|⟨h1,h2,h3,h4⟩
 ·have:=a1 h1 h2;have:=b2 h4 h3;omega
 ·have:=a2 h2 h1;have:=b1 h3 h4;omega
theorem gR {V X Y p c f g d e t:Int} (h:V+p*c=f*X+g*Y) (ht:t=f*d+c+g*e):V+p*(t%4294967296)+p*4294967296*(t/4294967296)=f*(X+p*d)+g*(Y+p*e):=by
 have h1:=Int.emod_add_mul_ediv t 4294967296
 have h2:p*(t%4294967296)+p*4294967296*(t/4294967296)=p*t:=by
  rw[Int.mul_assoc,<-Int.mul_add,h1]
 have h3:p*t=f*(p*d)+p*c+g*(p*e):=by rw[ht];grind
 have h4:f*(X+p*d)=f*X+f*(p*d):=by rw[Int.mul_add]
 have h5:g*(Y+p*e)=g*Y+g*(p*e):=by rw[Int.mul_add]
 omega
theorem xT {V P:Nat} {c R:Int} (hV:V<P) (h:(V:Int)+P*c=R) (h0:0<=R) (h1:R<P):(V:Int)=R:=by
 have hc:c=0:=by
  rcases Int.lt_trichotomy c 0 with hc|hc|hc
  ·have:(P:Int)*c<=P*(-1):=Int.mul_le_mul_of_nonneg_left (by omega) (by omega)
   omega
  ·exact hc
  ·have:(P:Int)*1<=P*c:=Int.mul_le_mul_of_nonneg_left (by omega) (by omega)
   omega
 subst hc
 omega
theorem UD (x y:Nat):Nat.gcd y (x%y)=Nat.gcd x y:=by
 rw[Nat.gcd_comm x y,Nat.gcd_rec y x];exact Nat.gcd_comm _ _
end Go.Eng

namespace Go.Eng
def zv (neg:Bool) (m:List Nat):Int:=bif neg then -(val m:Int) else (val m:Int)
abbrev rZ (q neg:Bool) (m:List Nat):List AV:=[.bool neg,.sl q (m.map AM)]
abbrev eZ (z:Int):List AV:=rZ false (decide (z<0)) (dg z.natAbs)
theorem ER (neg:Bool) (m:List Nat):(zv neg m).natAbs=val m:=by cases neg<;>simp [zv]
theorem EW (z:Int):zv (decide (z<0)) (dg z.natAbs)=z:=by
 unfold zv
 rw[BU]
 by_cases h:z<0
 ·simp [h];omega
 ·simp [h];omega
def Sm (n:Nat) (m:List Nat):Prop:=A5 m/\m.length<=n
theorem Sm.dg {n V:Nat} (h:V<4294967296^n):Sm n (dg V):=⟨DT V,NY.2 h⟩
theorem Sm.le {n n':Nat} {m:List Nat} (h:Sm n m) (hn:n<=n'):Sm n' m:=⟨h.1,by have:=h.2;omega⟩
theorem Sm.val {n:Nat} {m:List Nat} (h:Sm n m):val m<4294967296^n:=Nat.lt_of_lt_of_le (EV h.1) (Nat.pow_le_pow_right (by omega) h.2)
theorem Sm.nrm {n:Nat} {m:List Nat} (h:Sm n m):Sm n (Go.Eng.dg (Go.Eng.val m)):=Sm.dg h.val
theorem EL {z:Int} {b:Bool} {n:Nat} (h1:n=z.natAbs) (h2:b=decide (z<0)):AV.agg [.bool b,.sl false ((dg n).map AM)] = .agg (eZ z):=by rw[h1,h2]
theorem DJ (z:Int):A9 (.agg (eZ z)):=by
 simp only[A9,CY,and_true,true_and]
 exact CU _
theorem NI {z:Int} (h:z<0):true=decide (z<0):=by simp [h]
theorem F5 {z:Int} (h:0<=z):false=decide (z<0):=by simp;omega
theorem qL (n:Nat):Sm n []:=⟨RV,Nat.zero_le _⟩
theorem dC {n d:Nat} (hn:1<=n) (hd:d<4294967296):Sm n [d]:=⟨G6 hd,hn⟩
theorem sL (b:Bool):zv b []=0:=by cases b<;>rfl
theorem Sm.low {n V:Nat} {m:List Nat} (h:Sm n m) (hV:V<=Go.Eng.val m):Sm n (Go.Eng.dg V):=Sm.dg (Nat.lt_of_le_of_lt hV h.val)
theorem Sm.mul {n k:Nat} {a b:List Nat} (ha:Sm n a) (hb:Sm k b) {V:Nat} (hV:V=Go.Eng.val a*Go.Eng.val b):Sm (n+k) (Go.Eng.dg V):=by
 refine Sm.dg ?_
 rw[hV,Nat.pow_add]
 exact Nat.mul_lt_mul_of_le_of_lt (Nat.le_of_lt ha.val) hb.val (Nat.pow_pos (by omega))
theorem Sm.add {n:Nat} {a b:List Nat} (ha:Sm n a) (hb:Sm n b) {V:Nat} (hV:V<=Go.Eng.val a+Go.Eng.val b):Sm (n+1) (Go.Eng.dg V):=by
 refine Sm.dg ?_
 have h1:=ha.val
 have h2:=hb.val
 rw[Nat.pow_succ]
 omega
theorem HY (V:Nat):(dg V).length=0↔V=0:=by rw[List.length_eq_zero_iff,ZD]
theorem EG (m:List Nat):zv false m=(val m:Int):=rfl
theorem N5 (m:List Nat):zv true m = -(val m:Int):=rfl
def sgn (z:Int):Int:=if z<0 then -1 else if 0<z then 1 else 0
theorem cZ {z:Int} (h:z<0) : -1=sgn z:=by unfold sgn;rw[if_pos h]
theorem dA {z:Int} (h:0<z):1=sgn z:=by unfold sgn;rw[if_neg (by omega),if_pos h]
theorem U3 {z:Int} (h:z=0):0=sgn z:=by unfold sgn;rw[if_neg (by omega),if_neg (by omega)]
theorem sF {n:Nat} (h:n<18446744073709551616):val [n%4294967296,n/4294967296]=n:=(by simp [val];omega)
end Go.Eng

namespace Go.Eng
abbrev rQ (q1 q2 n:Bool) (m d:List Nat):List AV:=[.bool n,.sl q1 (m.map AM),.sl q2 (d.map AM)]
abbrev eQ (x:Rat):List AV:=rQ false false (decide (x.num<0)) (dg x.num.natAbs) (dg x.den)
def qv (n:Bool) (m d:List Nat):Rat:=mkRat (zv n m) (val d)
theorem EZ (x:Rat):qv (decide (x.num<0)) (dg x.num.natAbs) (dg x.den)=x:=by
 unfold qv
 rw[EW,BU,Rat.mkRat_self]
theorem lY {d:Nat} (z:Nat) (hd:d≠0):0<Nat.gcd d z:=Nat.gcd_pos_of_pos_left z (by omega)
theorem bS {z:Int} {d:Nat} (hd:d≠0):(mkRat z d).num.natAbs=z.natAbs/Nat.gcd d z.natAbs/\(mkRat z d).den=d/Nat.gcd d z.natAbs/\decide ((mkRat z d).num<0)=decide (z<0):=by
 have hg:=lY z.natAbs hd
 have h1:=Rat.num_mkRat z d
 have h2:=Rat.den_mkRat z d
 rw[if_neg hd]at h1 h2
 rw[h1,h2]
 obtain ⟨k,hk⟩:=Nat.gcd_dvd_right d z.natAbs
 generalize hG:Nat.gcd d z.natAbs=g at *
 have hz:z=(g:Int)*(z.sign*k):=by
  rw[<-Int.mul_assoc,Int.mul_comm (g:Int),Int.mul_assoc,<-Int.natCast_mul,<-hk,Int.sign_mul_natAbs]
 have e1:z/(g:Int)=z.sign*k:=by
  rw[hz,Int.mul_ediv_cancel_left _ (by omega),<-hz]
 refine ⟨?_,rfl,?_⟩
 ·rw[e1,Int.natAbs_mul,hk,Nat.mul_div_cancel_left _ hg]
  by_cases h0:z=0
  ·subst h0
   have:k=0:=by
    have h5:g*k=0:=hk.symm
    rcases Nat.mul_eq_zero.1 h5 with h|h
    ·omega
    ·exact h
   subst this;simp
  ·rw[Int.natAbs_sign_of_ne_zero h0,Nat.one_mul];simp
 ·congr 1
  rw[eq_iff_iff]
  rw[Int.ediv_lt_iff_lt_mul (by omega),Int.zero_mul]
theorem DS (x:Rat):A9 (.agg (eQ x)):=by
 simp only[A9,CY,and_true,true_and]
 exact ⟨CU _,CU _⟩
theorem TJ (b w:Bool) (m d:List Nat):A9 (.agg [.bool b,.sl false (m.map AM),.sl false (d.map AM),.bool w]):=by
 simp only[A9,CY,and_true,true_and]
 exact ⟨CU _,CU _⟩
theorem xN (b:Bool) (m:List Nat):A9 (.agg [.bool b,.sl false (m.map AM)]):=by
 simp only[A9,CY,and_true,true_and]
 exact CU _
theorem WB (b:Bool) (m d:List Nat):A9 (.agg [.bool b,.sl false (m.map AM),.sl false (d.map AM)]):=by
 simp only[A9,CY,and_true,true_and]
 exact ⟨CU _,CU _⟩
theorem UC (q:Bool) (l:List Nat):S4 (.sl q (l.map AM)):=by
 intro e he c hc
 obtain ⟨x,_,rfl⟩:=List.mem_map.1 he
 simp at hc
 subst hc
 rfl
theorem GD {b w q1 q2:Bool} {m d:List Nat} {K:AV->Prop} (hk:K (.agg [.bool b,.sl true (m.map AM),.sl true (d.map AM),.bool w])):BM (.agg [.bool b,.sl q1 (m.map AM),.sl q2 (d.map AM),.bool w]) K:=by
 refine ⟨fun c hc => ?_,hk⟩
 simp only[List.mem_cons,List.not_mem_nil,or_false]at hc
 rcases hc with rfl|rfl|rfl|rfl
 ·trivial
 ·exact UC _ _
 ·exact UC _ _
 ·trivial
theorem eI {b q1 q2:Bool} {m d:List Nat} {K:AV->Prop} (hk:K (.agg [.bool b,.sl true (m.map AM),.sl true (d.map AM)])):BM (.agg [.bool b,.sl q1 (m.map AM),.sl q2 (d.map AM)]) K:=by
 refine ⟨fun c hc => ?_,hk⟩
 simp only[List.mem_cons,List.not_mem_nil,or_false]at hc
 rcases hc with rfl|rfl|rfl
 ·trivial
 ·exact UC _ _
 ·exact UC _ _
theorem PX {b q1:Bool} {m:List Nat} {K:AV->Prop} (hk:K (.agg [.bool b,.sl true (m.map AM)])):BM (.agg [.bool b,.sl q1 (m.map AM)]) K:=by
 refine ⟨fun c hc => ?_,hk⟩
 simp only[List.mem_cons,List.not_mem_nil,or_false]at hc
 rcases hc with rfl|rfl
 ·trivial
 ·exact UC _ _
theorem W4 {a b:Int} {d e:Nat} (hd:d≠0) (he:e≠0):mkRat a d+mkRat b e=mkRat (a*e+b*d) (d*e):=Rat.mkRat_add_mkRat a b hd he
theorem nR {a b:Int} {d:Nat} (hd:d≠0):mkRat a d+mkRat b d=mkRat (a+b) d:=by
 rw[W4 hd hd,<-Int.add_mul,Rat.mkRat_mul_right hd]
theorem bQ (a b:Int) (d e:Nat):mkRat a d*mkRat b e=mkRat (a*b) (d*e):=Rat.mkRat_mul_mkRat a b d e
theorem nT (a:Int):mkRat a 1=(a:Rat):=by
 have h:=Rat.mkRat_self (a:Rat)
 rw[Rat.num_intCast,Rat.den_intCast]at h
 exact h
theorem W5 {z:Int} {d:Nat} (hd:d≠0):mkRat z d=0↔z=0:=Rat.mkRat_eq_zero hd
theorem nU {z:Int} {d:Nat} (hd:d≠0):sgn (mkRat z d).num=sgn z:=by
 obtain ⟨_,_,h⟩:=bS (z:=z) hd
 have h0:(mkRat z d).num=0↔z=0:=by rw[Rat.num_eq_zero,W5 hd]
 have h1:(mkRat z d).num<0↔z<0:=by simpa using h
 unfold sgn
 by_cases a:z<0
 ·rw[if_pos a,if_pos (h1.2 a)]
 ·rw[if_neg a,if_neg (fun h=>a (h1.1 h))]
  by_cases b:z=0
  ·rw[if_neg (by omega),if_neg (by have:=h0.2 b;omega)]
  ·rw[if_pos (by omega),if_pos (by have:=mt h0.1 b;have:=mt h1.1 a;omega)]
theorem Adi {a b:Int} {d e:Nat} (hd:d≠0) (he:e≠0) (hb:b≠0):mkRat a d/mkRat b e=mkRat (b.sign*(a*e)) (d*b.natAbs):=by
 have hbn:b.natAbs≠0:=by omega
 have h1:mkRat b e≠0:=fun h=>hb ((W5 he).1 h)
 have key:mkRat (b.sign*(a*e)) (d*b.natAbs)*mkRat b e=mkRat a d:=by
  rw[bQ]
  have e1:b.sign*(a*e)*b=a*((b.natAbs*e:Nat):Int):=by
   have:=Int.sign_mul_self b
   rw[Int.natCast_mul,<-this]
   grind
  rw[e1,show d*b.natAbs*e=d*(b.natAbs*e) by rw[Nat.mul_assoc]]
  exact Rat.mkRat_mul_right (Nat.mul_ne_zero hbn he)
 rw[<-key,Rat.mul_div_cancel h1]
theorem sM {x y:Int} (hy:y≠0):zv (decide (x<0) != decide (y<0)) (dg x.natAbs)=y.sign*x:=by
 unfold zv
 rw[BU]
 rcases Int.lt_or_gt_of_ne hy with h|h
 ·rw[Int.sign_eq_neg_one_of_neg h]
  by_cases hx:x<0
  ·simp [hx,h];omega
  ·simp [hx,h];omega
 ·rw[Int.sign_eq_one_of_pos h]
  by_cases hx:x<0
  ·simp [hx,show ¬ y<0 by omega];omega
  ·simp [hx,show ¬ y<0 by omega];omega
end Go.Eng
