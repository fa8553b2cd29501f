/-
  The walk by computation is sound: calls, regions, code, loops, functions.
-/
import Derived.Test.YtgdojcofnobpeaaGreatB6
import Derived.Test.YtgdojcofnobpeaaGreatB5
set_option linter.unusedSimpArgs false
set_option linter.unusedVariables false
set_option linter.unnecessarySimpa false
namespace Go.Eng
section
variable {σ:IJ} {tm:Tm} {M:Mem} {st:St} {L:Lib} {b7:List Nat}
theorem Lg {own:BT} {q:Bool} {d:Nat} : ∀ {e:List AV},IO e=true->e.mapM (snap own q d)=some e
 | [],_=>rfl
 | v::r,h=>by
  have hv:snap own q d v=some v/\IO r=true:=by
   cases v<;>simp only[IO]at h<;>first|cases h|exact ⟨by cases d<;>rfl,h⟩
  rw[List.mapM_cons,hv.1,Lg hv.2];rfl
theorem Li {own:BT} {q:Bool} {d:Nat} : ∀ {e:List AV},QF e=true->e.mapM (snap own q d)=some (e.map nl)
 | [],_=>rfl
 | v::r,h=>by
  have hv:snap own q d v=some (nl v)/\QF r=true:=by
   cases v<;>simp only[QF]at h<;>first|cases h|exact ⟨by cases d<;>rfl,h⟩
  rw[List.mapM_cons,hv.1,Li hv.2];rfl
theorem Lh {own:BT} {q:Bool} {d:Nat} : ∀ {es:List (List AV)},(∀ e∈es,QF e=true)->es.mapM (λ cs:List AV=>cs.mapM (snap own q d))=some (es.map λ e=>e.map nl)
 | [],_=>rfl
 | e::r,h=>by
  rw[List.mapM_cons,Li (h e List.mem_cons_self),Lh λ x hx=>h x (List.mem_cons_of_mem _ hx)];rfl
theorem Lf {own:BT} {q:Bool} {d:Nat} : ∀ {es:List (List AV)},(∀ e∈es,IO e=true)->es.mapM (λ cs:List AV=>cs.mapM (snap own q d))=some es
 | [],_=>rfl
 | e::r,h=>by
  rw[List.mapM_cons,Lg (h e List.mem_cons_self),Lf λ x hx=>h x (List.mem_cons_of_mem _ hx)];rfl
theorem Ml (hs:NX σ st.own M) {q:Bool} {v:AV} {K:AV->Prop} (h:YU q M b7 v K) : ∃ v',(∀ d,snap (st.own.g9 b7) q (d+1) (CZ σ v)=some v')/\K v'/\v ≠ .any/\DQ σ v=CZ σ v:=by
 cases v with
 | row key t z off len =>
  have fin : ∀ (z':Nat) (es:List (List AV)),((st.own.g9 b7) (σ key t).1).blk (σ key t).2=some ⟨z',es⟩->z=z'->CQ es off len (λ es=>K (.sl q es)) -> ∃ v',(∀ d,snap (st.own.g9 b7) q (d+1) (CZ σ (.row key t z off len))=some v')/\K v'/\AV.row key t z off len ≠ .any/\DQ σ (.row key t z off len)=CZ σ (.row key t z off len):=by
   intro z' es hb hz h;subst hz;obtain ⟨h1,h2,h3⟩:=h;refine ⟨_,λ d => ?_,h3,(by intro e;cases e),rfl⟩;simp only[CZ,snap,G4,BT.get,hb];rw[if_pos ⟨h1,trivial⟩];simp only;rw[Lh λ e he=>h2 e (List.mem_of_mem_drop (List.mem_of_mem_take he))];rfl
  simp only[YU]at h;split at h
  ·rename_i s z' es hm
   split at h
   ·cases hz:Nat.beq z z'<;>simp only[hz,cond_true,cond_false]at h
    cases hb:WN s b7<;>simp only[hb,cond_true,cond_false]at h;refine fin z' es ?_ (DI.1 hz) h;have o8:=hs.blk _ _ _ (GN hm);rw[hs.site _ _ _ hm]at o8 ⊢;rw[aA hb];exact o8
   ·exact h.elim
  ·rename_i s rows hm
   split at h
   ·exact h.elim
   ·rename_i i
    split at h
    ·obtain ⟨z',es,g,h⟩:=h
     cases hz:Nat.beq z z'<;>simp only[hz,cond_true,cond_false]at h;exact fin z' es (hs.blk key (i+1) (.rw z' es) (by simp [a8,hm,g])) (DI.1 hz) h
    ·rename_i b r
     cases hb:YG (b::r)<;>simp only[hb,cond_true,cond_false]at h;obtain ⟨z',es,g,h⟩:=h;cases hz:Nat.beq z z'<;>simp only[hz,cond_true,cond_false]at h;have g':a8 M key (i+1)=some (.rw z' es):=by simp [a8,hm,g]
     refine fin z' es ?_ (DI.1 hz) h;rw[pE (hs.low _ _ _ g' rfl) hb];exact hs.blk key (i+1) (.rw z' es) g'
  ·exact h.elim
 | int k n=>exact ⟨_,λ d=>rfl,h,(by intro e;cases e),rfl⟩
 | bool b=>exact ⟨_,λ d=>rfl,h,(by intro e;cases e),rfl⟩
 | sl l es=>exact ⟨_,λ d=>rfl,h,(by intro e;cases e),rfl⟩
 | w7 c=>exact ⟨_,λ d=>rfl,h,(by intro e;cases e),rfl⟩
 | nil=>exact ⟨_,λ d=>rfl,h,(by intro e;cases e),rfl⟩
 | _=>exact (h:False).elim
theorem Mj (hs:NX σ st.own M) {q:Bool} : ∀ {l:List AV} {K:List AV->Prop},jU q M b7 l K -> ∃ l',(∀ d,(l.map (CZ σ)).mapM (snap (st.own.g9 b7) q (d+1))=some l')/\K l'
 | [],K,h=>⟨[],λ d=>rfl,h⟩
 | v::r,K,h=>by
  obtain ⟨v',h1,h2,_⟩:=Ml hs (show YU q M b7 v λ v'=>jU q M b7 r λ r'=>K (v'::r') from h);obtain ⟨l',h3,h4⟩:=Mj hs h2;refine ⟨v'::l',λ d => ?_,h4⟩;rw[List.map_cons,List.mapM_cons,h1 d,h3 d];rfl
theorem Od (hs:NX σ st.own M) {q:Bool} : ∀ {l:List (List AV)} {K:List (List AV)->Prop},qR q M b7 l K -> ∃ l',(∀ d,(l.map λ cs=>cs.map (CZ σ)).mapM (λ cs:List AV=>cs.mapM (snap (st.own.g9 b7) q (d+1)))=some l')/\K l'
 | [],K,h=>⟨[],λ d=>rfl,h⟩
 | v::r,K,h=>by
  obtain ⟨v',h1,h2⟩:=Mj hs (show jU q M b7 v λ v'=>qR q M b7 r λ r'=>K (v'::r') from h);obtain ⟨l',h3,h4⟩:=Od hs h2;refine ⟨v'::l',λ d => ?_,h4⟩;rw[List.map_cons,List.mapM_cons,h1 d,h3 d];rfl
theorem qC {own:BT} {q:Bool} {d:Nat} {k:Nat} : ∀ {rows:List (Option (Nat × List (List AV)))} {i:Nat},(∀ j z es,rows[j]? = some (some (z,es))->(own (σ k (i+j+1)).1).blk (σ k (i+j+1)).2=some ⟨z,es⟩ /\ ∀ e∈es,IO e=true) ->
  (DZ σ k i rows).mapM (λ cs:List AV=>cs.mapM (snap own q (d+1)))=some (WS q rows)
 | [],i,h=>rfl
 | none::r,i,h=>by
  rw[DZ,List.mapM_cons,qC (i:=i+1) λ j z es hj=>by
   have:=h (j+1) z es (by simpa using hj)
   rwa [show i+(j+1)+1=i+1+j+1 by omega]at this]
  rfl
 | some (z,es)::r,i,h=>by
  rw[DZ,List.mapM_cons,qC (i:=i+1) λ j z es hj=>by
   have:=h (j+1) z es (by simpa using hj)
   rwa [show i+(j+1)+1=i+1+j+1 by omega]at this]
  obtain ⟨h1,h2⟩:=h 0 z es rfl;have:snap own q (d+1) (.row (σ k (i+1)).1 (σ k (i+1)).2 z 0 es.length)=some (.sl q es):=by
   simp only[snap,G4,BT.get];rw[show (own (σ k (i+1)).1).blk (σ k (i+1)).2=some ⟨z,es⟩ from h1];simp only[Nat.zero_add,Nat.le_refl,and_self,if_true,List.drop_zero];rw[List.take_of_length_le (Nat.le_refl _),Lf h2];rfl
  rw[List.mapM_cons,this];rfl
theorem Oc (hs:NX σ st.own M) {q:Bool} {v:AV} {K:AV->Prop} (h:dX q M b7 v K) : ∃ v',snap (st.own.g9 b7) q 6 (CZ σ v)=some v'/\K v'/\v ≠ .any/\DQ σ v=CZ σ v/\F6 (st.own.g9 b7) q (CZ σ v)=some v':=by
 have ka:YU q M b7 v K -> ∃ v',snap (st.own.g9 b7) q 6 (CZ σ v)=some v'/\K v'/\v ≠ .any/\DQ σ v=CZ σ v/\F6 (st.own.g9 b7) q (CZ σ v)=some v':=by
  intro h;obtain ⟨v',h1,h2,h3,h4⟩:=Ml hs h;refine ⟨v',h1 5,h2,h3,h4,?_⟩;have:=h1 5;cases v<;>first|exact this|exact (h:False).elim
 unfold dX at h;split at h
 ·rename_i key z off len
  split at h
  ·rename_i s z' es hm
   cases hz:Nat.beq z z'<;>simp only[hz,cond_true,cond_false]at h;cases hb:WN s b7<;>simp only[hb,cond_true,cond_false]at h;cases ho:Nat.beq off 0<;>simp only[ho,cond_true,cond_false]at h;obtain rfl:=DI.1 hz;obtain rfl:=DI.1 ho;obtain ⟨rfl,h⟩:=h;obtain ⟨l',h1,h2⟩:=Od hs h;have o8:=hs.blk _ _ _ (GN hm);rw[hs.site _ _ _ hm]at o8;have key:snap (st.own.g9 b7) q 6 (CZ σ (.row key 0 z 0 es.length))=some (.sl q l'):=by
    simp only[CZ,snap,G4,BT.get,hs.site _ _ _ hm];rw[aA hb,o8];simp only[CS.blk,Nat.zero_add,List.length_map,Nat.le_refl,and_self,if_true,List.drop_zero];rw[List.take_of_length_le (by simp),h1 4];rfl
   exact ⟨_,key,h2,(by intro e;cases e),rfl,key⟩
  ·rename_i s rows hm
   split at h
   ·cases hz:Nat.beq z 1<;>simp only[hz,cond_true,cond_false]at h
    obtain rfl:=DI.1 hz;obtain ⟨rfl,rfl,h1,h2⟩:=h;have o8:=hs.blk _ _ _ (GN hm);have key:snap (st.own.g9 []) q 6 (CZ σ (.row key 0 1 0 rows.length))=some (.sl q (WS q rows)):=by
     simp only[CZ,snap,G4,BT.get,BT.g9];rw[o8];simp only[CS.blk,Nat.zero_add,H3,Nat.le_refl,and_self,if_true,List.drop_zero];rw[List.take_of_length_le (by rw[H3];exact Nat.le_refl _),qC (i:=0) λ j z es hj=>⟨by
      have:=hs.blk key (j+1) (.rw z es) (by simp [a8,hm,hj])
      simpa [CS.blk] using this,h1 z es (zM hj)⟩]
     rfl
    exact ⟨_,key,h2,(by intro e;cases e),rfl,key⟩
   ·exact h.elim
  ·exact ka h
 ·exact ka h
theorem Mm (hs:NX σ st.own M) {q:Bool} : ∀ {l:List AV} {K:List AV->Prop},qW q M b7 l K -> ∃ l',(l.map (CZ σ)).mapM (snap (st.own.g9 b7) q 6)=some l'/\K l'
 | [],K,h=>⟨[],rfl,h⟩
 | v::r,K,h=>by
  obtain ⟨v',h1,h2,_⟩:=Oc hs (show dX q M b7 v λ v'=>qW q M b7 r λ r'=>K (v'::r') from h);obtain ⟨l',h3,h4⟩:=Mm hs h2;refine ⟨v'::l',?_,h4⟩;rw[List.map_cons,List.mapM_cons,h1,h3];rfl
theorem qQ (hs:NX σ st.own M) {q:Bool} {v:AV} {K:AV->Prop} (h:WU q M b7 v K) : ∃ v',F6 (st.own.g9 b7) q (DB σ v)=some v'/\K v'/\v ≠ .any/\DB σ v=DQ σ v:=by
 cases v with
 | agg cs =>
  simp only[WU]at h;obtain ⟨l',h1,h2⟩:=Mm hs h;refine ⟨.agg l',?_,h2,(by intro e;cases e),rfl⟩;simp only[K1,F6,h1,Option.map_some]
 | tup vs=>exact (h:False).elim
 | fn p f g cs=>exact (h:False).elim
 | any=>exact (h:False).elim
 | _ =>
  simp only[WU]at h;obtain ⟨v',h1,h2,h3,h4,h5⟩:=Oc hs h;exact ⟨v',h5,h2,h3,rfl⟩
theorem qY (hr:RX σ tm M st) : ∀ {xs:List B8} {K:List AV->Prop},jX tm M b7 xs K -> ∃ vs,(xs.map st.ev).mapM (F6 (st.own.g9 b7) true)=some vs/\K vs
 | [],K,h=>⟨[],rfl,h⟩
 | x::r,K,h=>by
  obtain ⟨v',h1,h2,h3,_⟩:=qQ hr.sat (show WU true M b7 (ex tm x) λ v=>jX tm M b7 r λ vs=>K (v::vs) from h);obtain ⟨l',h4,h5⟩:=qY hr h2;refine ⟨v'::l',?_,h5⟩;rw[List.map_cons,List.mapM_cons,hr.ev rfl h3,h1,h4];rfl
theorem Alf (hs:NX σ st.own M) {v:AV} {K:AV->Prop} (h:jV M b7 v K) : ∃ v',UG (st.own.g9 b7) true (DB σ v)=some v'/\K v'/\v ≠ .any/\DB σ v=DQ σ v:=by
 cases v with
 | nil=>exact ⟨.nil,rfl,h,(by intro e;cases e),rfl⟩
 | _ =>
  simp only[jV]at h;obtain ⟨v',h1,h2,h3,h4⟩:=qQ hs h;exact ⟨v',h1,h2,h3,h4⟩
theorem Mn (hr:RX σ tm M st) : ∀ {xs:List B8} {K:List AV->Prop},qX tm M b7 xs K -> ∃ vs,(xs.map st.ev).mapM (UG (st.own.g9 b7) true)=some vs/\K vs
 | [],K,h=>⟨[],rfl,h⟩
 | x::r,K,h=>by
  obtain ⟨v',h1,h2,h3,_⟩:=Alf hr.sat (show jV M b7 (ex tm x) λ v=>qX tm M b7 r λ vs=>K (v::vs) from h);obtain ⟨l',h4,h5⟩:=Mn hr h2;refine ⟨v'::l',?_,h5⟩;rw[List.map_cons,List.mapM_cons,hr.ev rfl h3,h1,h4];rfl
theorem cQ (hr:RX σ tm M st) : ∀ {xs:List B8} {K:List AV->Prop},Z0 tm xs K -> ∃ vs,xs.map st.ev=vs.map (DB σ)/\K vs
 | [],K,h=>⟨[],rfl,h⟩
 | x::r,K,h=>by
  obtain ⟨h1,h2⟩:=iC (show fV (ex tm x) λ v=>Z0 tm r λ vs=>K (v::vs) from h);obtain ⟨vs,h3,h4⟩:=cQ hr h2;exact ⟨ex tm x::vs,by rw[List.map_cons,List.map_cons,hr.ev rfl h1,h3],h4⟩
theorem uW {v:AV} (h:CT v):CZ σ v=v:=by
 cases v<;>first|rfl|(simp only[CT]at h)
theorem uU : ∀ {l:List AV},FG l->l.map (CZ σ)=l
 | [],_=>rfl
 | v::r,h=>by
  simp only[FG]at h;rw[List.map_cons,uW h.1,uU h.2]
theorem uX {v:AV} (h:CT v):DQ σ v=v:=by
 cases v with
 | agg cs=>simp only[CT]at h;simp only[DQ,uU h]
 | fn p f g cs=>simp only[CT]at h
 | _=>exact uW (σ:=σ) h
theorem uV : ∀ {l:List AV},FG l->l.map (DQ σ)=l
 | [],_=>rfl
 | v::r,h=>by
  simp only[FG]at h;rw[List.map_cons,uX h.1,uV h.2]
theorem uY {v:AV} (h:CT v):DB σ v=v:=by
 cases v with
 | tup cs=>simp only[CT]at h;simp only[DB,uV h]
 | _=>exact uX (σ:=σ) h
theorem Kx {I:List AV->Option (AV × BT)} {vs:List AV} {r:AV} (h:LQ I vs=some r):CT r:=by
 unfold LQ at h;split at h
 ·split at h
  ·split at h
   ·obtain rfl:=Option.some.inj h
    assumption
   ·cases h
  ·cases h
 ·cases h
theorem Ev.clean {f:Nat} {vs:List AV} {r:AV} (h:Ev L f vs r):CT r:=by
 obtain ⟨n,h⟩:=h;unfold K7 OL at h;split at h
 ·split at h
  ·rename_i r1 r2 h1 h2
   split at h
   ·obtain rfl:=Option.some.inj h
    exact Kx h1
   ·cases h
  ·cases h
 ·exact Kx h
theorem RX.put (h:RX σ tm M st) (d:Nat) {v v':AV} (e:v'=DB σ v):RX σ ((d,v)::tm) M ⟨df st.tm d v',st.own⟩:=by
 refine ⟨λ j => ?_,h.sat⟩;simp only[tg,aP];cases hb:Nat.beq j d
 ·rw[if_neg (IG.1 hb)];exact h.tm j
 ·rw[if_pos (DI.1 hb)];exact Or.inr e
theorem Lj : ∀ {cs:List AV},dJ cs=true->cs.map (DB σ)=cs.map (CZ σ)
 | [],_=>rfl
 | v::r,h=>by
  simp only[dJ]at h;cases hv:pF v<;>simp only[hv,cond_true,cond_false]at h
  ·cases h
  ·rw[List.map_cons,List.map_cons,Lj h]
   cases v<;>first|rfl|(simp [pF]at hv)
theorem Zo {v:AV} (h:J7 v=true):CZ σ v=v:=by cases v<;>first|rfl|(simp [J7]at h)
theorem xA : ∀ {cs:List AV},cs.all J7=true->cs.map (CZ σ)=cs
 | [],_=>rfl
 | c::r,h=>by
  simp only[List.all_cons,Bool.and_eq_true]at h;rw[List.map_cons,Zo h.1,xA h.2]
theorem xB : ∀ {vs:List AV},vs.all dq=true->vs.map (DB σ)=vs
 | [],_=>rfl
 | v::r,h=>by
  simp only[List.all_cons,Bool.and_eq_true]at h;rw[List.map_cons,xB h.2];congr 1;cases v with
  | agg cs=>simp only[DB,DQ,xA (show cs.all J7=true from h.1)]
  | _=>first|rfl|(simp [dq,J7]at h)
theorem Aj2 {r:AV} (hc:CT r) (hf:aX r):DB σ (jq r)=jq r:=by
 cases r with
 | agg cs =>
  simp only[jq,DB,DQ];congr 1;rw[List.map_map];refine List.map_congr_left λ c hcm => ?_
  have:=hf c hcm
  cases c<;>first|rfl|exact this.elim
 | _=>first|rfl|exact hf.elim
theorem Kd : ∀ {l:List AV},iK l=true->l.map (DB σ)=l
 | [],_=>rfl
 | .int _ _::r,h=>by
  rw[List.map_cons,Kd (l:=r) h];rfl
theorem Ur {K:AV->Mem->Prop} (hr:RX σ tm M st) {op:GO} (h:XE L tm M b7 K op):DL L tm b7 K op st\/(∃ f xs,op = .call f xs)\/(∃ f xs,op = .c5 f xs)\/(∃ x xs,op = .l9 x xs)\/(∃ f xs,op = .g8 f xs)\/(∃ s f xs,op = .m5 s f xs) \/ ∃ s f xs,op = .w3 s f xs:=by
 cases op with
 | call f xs=>exact Or.inr (Or.inl ⟨_,_,rfl⟩)
 | c5 f xs=>exact Or.inr (Or.inr (Or.inl ⟨_,_,rfl⟩))
 | l9 x xs=>exact Or.inr (Or.inr (Or.inr (Or.inl ⟨_,_,rfl⟩)))
 | g8 f xs=>exact Or.inr (Or.inr (Or.inr (Or.inr (Or.inl ⟨_,_,rfl⟩))))
 | m5 s f xs=>exact Or.inr (Or.inr (Or.inr (Or.inr (Or.inr (Or.inl ⟨_,_,_,rfl⟩)))))
 | w3 s f xs=>exact Or.inr (Or.inr (Or.inr (Or.inr (Or.inr (Or.inr ⟨_,_,_,rfl⟩)))))
 | gf s n x v=>exact Or.inl (Tu hr h)
 | y9 s z b x y=>exact Or.inl (Ue hr h)
 | jo ne x=>exact Or.inl (Uu hr h)
 | bad=>exact (show False from h).elim
 | jz x=>exact Or.inl (Tq hr h)
 | ak x=>exact Or.inl (Ul hr h)
 | gi s z b x y=>exact Or.inl (Uf hr h)
 | gx s z b x y=>exact Or.inl (Ub hr h)
 | bn tb x=>exact Or.inl (Ts hr h)
 | iu p f xs=>exact Or.inl (Uy hr h)
 | a7 x=>exact Or.inl (Tp hr h)
 | o3 s z=>exact Or.inl (Tw hr h)
 | pick c a b=>exact Or.inl (Tr hr h)
 | bin o x y=>exact Or.inl (Uh hr h)
 | beq ne x y=>exact Or.inl (Ug hr h)
 | jt ne n x y=>exact Or.inl (Tz hr h)
 | un o x=>exact Or.inl (Tv hr h)
 | conv k x=>exact Or.inl (Um hr h)
 | box s x=>exact Or.inl (Ui hr h)
 | alloc s z=>exact Or.inl (Ua hr h)
 | build z ps=>exact Or.inl (Uk hr h)
 | b8 s z ps=>exact Or.inl (Uj hr h)
 | a6 x o=>exact Or.inl (Up hr h)
 | gj x o n a=>exact Or.inl (Uq hr h)
 | a4 a z x i=>exact Or.inl (Us hr h)
 | idx l z a x i=>exact Or.inl (Ut hr h)
 | ld a n x=>exact Or.inl (Uv hr h)
 | st n x v=>exact Or.inl (tJ hr h)
 | mk s z b ze l c=>exact Or.inl (Ux hr h)
 | ae z x lo hi=>exact Or.inl (Tt hr h)
 | ext x i=>exact Or.inl (Uo hr h)
 | len x=>exact Or.inl (Uw hr h)
 | mm m xs=>exact Or.inl (To hr h)
 | app s z b x y=>exact Or.inl (Uc hr h)
 | ia z x y=>exact Or.inl (Un hr h)
theorem kY {K:AV->Mem->Prop} (hr:RX σ tm M st) {op:GO} {d:Option Nat} {g:Option (Nat × Bool)} {l:List AI} {k:List It} {Q:St->Prop} (h:XE L tm M b7 K op) (hg:H0 st g=some true)
  (hk : ∀ σ' v v' M' g7,K v M'->v'=DB σ' v->RX σ' tm M' ⟨st.tm,g7⟩->AO L l k ⟨((⟨st.tm,g7⟩:St).dst d v').tm,g7⟩ Q):AO L (⟨d,op,g,b7⟩::l) k st Q:=by
 rcases Ur hr h with ⟨E,σ',v,M',h1,h2,h3,h4⟩|⟨f,xs,rfl⟩|⟨f,xs,rfl⟩|⟨x,xs,rfl⟩|⟨f,xs,rfl⟩|⟨s,f,xs,rfl⟩|⟨s,f,xs,rfl⟩
 ·rw[Tf hg h1,lE]
  have:=hk σ' v _ M' _ h2 h3 h4
  cases d<;>exact this
 ·simp only[XE]at h
  obtain ⟨vs,h1,r,h2,h3⟩:=qY hr h;rw[Sw hg h1 h2];have:=hk σ r r M st.own h3 (uY h2.clean).symm hr;cases d<;>exact this
 ·simp only[XE]at h
  obtain ⟨vs,h1,h2⟩:=cQ hr h;obtain ⟨r,g7,σ',M',h3,h4,h5,h6⟩:=h2 σ st.own hr.sat;rw[<-h1]at h3;rw[Sx hg h3];have:=hk σ' r _ M' g7 h6 rfl ⟨λ j=>by rw[h5 j];exact hr.tm j,h4⟩;cases d<;>exact this
 ·simp only[XE]at h
  split at h
  ·rename_i f g' e1
   obtain ⟨h0,h⟩:=h;obtain ⟨vs,h1,r,h2,h3⟩:=qY hr h;have e2:=hr.ev e1 (by intro e;cases e);rw[qF,List.map_nil,h0]at e2;rw[Sy hg e2 h1 h2];have:=hk σ r r M st.own h3 (uY h2.clean).symm hr;cases d<;>exact this
  ·rename_i f g' cs e1
   cases ho:dJ cs<;>simp only[ho,cond_true,cond_false]at h;obtain ⟨h0,h⟩:=h;obtain ⟨vs,h1,h2⟩:=cQ hr h;rw[J8]at h2;obtain ⟨r,g7,σ',M',h3,h4,h5,h6⟩:=h2 σ st.own hr.sat;rw[List.map_append,<-h1,Lj (σ:=σ) ho]at h3;have e2:=hr.ev e1 (by intro e;cases e);rw[qF,h0]at e2;rw[Tb hg e2 h3];have:=hk σ' r _ M' g7 h6 rfl ⟨λ j=>by rw[h5 j];exact hr.tm j,h4⟩;cases d<;>exact this
  ·exact h.elim
 ·simp only[XE]at h
  obtain ⟨vs,h1,h2⟩:=cQ hr h;cases ho:vs.all dq<;>simp only[ho,cond_true,cond_false]at h2;obtain ⟨r,h3,h4,h5⟩:=h2;have e1:xs.map st.ev=vs:=by rw[h1];exact xB ho
  rw[Sz hg (by rw[e1];exact ho) (by rw[e1];exact h3) h4];have:=hk σ (jq r) (jq r) M st.own h5 (Aj2 h3.clean h4).symm hr;cases d<;>exact this
 ·simp only[XE]at h
  cases uz:HM s<;>simp only[uz,cond_true,cond_false]at h;obtain ⟨vs,h1,z,es,n,h2,rfl,h3⟩:=Mn hr h;obtain ⟨k',g1,g2,g3⟩:=KL h3;refine Ta hg h1 h2 ?_;rw[lE];have:=hk (E6 σ k' λ_=>(s,st.own.c8 s)) _ (.row s (st.own.c8 s) z 0 es.length) _ _ g3 (by simp only[FN,DN]) (hr.ax (q:=s) g1 g2 (.rw z es) trivial rfl (λ_=>uz));cases d<;>exact this
 ·simp only[XE]at h
  obtain ⟨vs,h1,h2⟩:=cQ hr h;split at h2
  ·rename_i key rest
   cases hi:iK rest<;>simp only[hi,cond_true,cond_false]at h2;obtain ⟨cells,az,kd,n,g1,g2,g3,g4,g5⟩:=h2;have aw:=hr.sat.site _ _ _ g1;have o8:=hr.sat.blk _ _ _ (GN g1);rw[aw]at o8;simp only[CS.blk,MC g2]at o8;have q5:xs.map st.ev = .ptr s (σ key 0).2 0 0::rest:=by
    rw[h1,List.map_cons,GY,aw,Kd hi]
   have hE:=g4 (σ key 0).2 (st.own s) o8;refine Tc hg (by rw[q5];exact hE) ?_;rw[lE];have:=hk σ (.int kd n) (.int kd n) _ _ g5 rfl (hr.Ax g1 trivial (.bx az) trivial (λ h=>by cases h));simp only[CS.blk,MC g3]at this;cases d<;>exact this
  ·exact h2.elim
theorem AiM (hr:RX σ tm M st) {g:Nat} {w:Bool} {b:Bool} (e:tg tm g = .bool b):H0 st (some (g,w))=some (b == w):=by
 rcases hr.tm g with h|h
 ·rw[e]at h;cases h
 ·rw[e]at h
  simp only[H0,h,JU]
theorem AiN (hr:RX σ tm M st) {g:Nat} {w:Bool} (e:tg tm g = .tup []):H0 st (some (g,w))=some false:=by
 rcases hr.tm g with h|h
 ·rw[e]at h;cases h
 ·rw[e]at h
  simp only[H0,h,LD,List.map_nil]
theorem rM {key:Nat} : ∀ (tm:Tm) (j:Nat),tg (tp key tm) j = .any\/tg (tp key tm) j=tg tm j
 | [],_=>Or.inl rfl
 | (i,v)::r,j=>by
  simp only[tp];cases hc:V5 key v<;>cases hb:Nat.beq j i;all_goals simp only[cond_true,cond_false,tg,hb]
  ·exact rM r j
  ·exact Or.inr trivial
  ·exact rM r j
  ·exact Or.inl trivial
theorem Al1 {v:AV} {K:Tm->Prop} (h:xk v tm K) : ∃ t9,(∀ j,tg t9 j = .any\/tg t9 j=tg tm j)/\K t9:=by
 unfold xk at h;split at h
 ·rw[Z2]at h
  exact ⟨_,λ j=>rM _ j,h⟩
 ·exact ⟨_,λ j=>Or.inr rfl,h⟩
theorem tK {k:List It} {Q:Tm->Mem->Prop} : ∀ {l:List AI} {K:Tm->Mem->Prop} {tm:Tm} {M:Mem},XO L l K tm M->(∀ t9 M',K t9 M'->AH L k t9 M' Q)->sK L l k tm M Q
 | [],K,tm,M,h,hk=>λ σ st hr=>Td.2 (hk tm M h σ st hr)
 | o::l,K,tm,M,h,hk=>by
  intro σ st hr;have h:XI L o (XO L l) K tm M:=h;have ih : ∀ t9 M',XO L l K t9 M'->sK L l k t9 M' Q:=λ t9 M' h'=>tK h' hk
  have some_ : ∀ (d:Nat) (op:GO) (g:Option (Nat × Bool)) (b7:List Nat),H0 st g=some true->XE L tm M b7 (λ v M=>XO L l K ((d,v)::tm) M) op->AO L (⟨some d,op,g,b7⟩::l) k st (SQ Q):=by
   intro d op g b7 hg hx;refine kY hr hx hg ?_;intro σ' v v' M' g7 h1 h2 h3;exact ih _ _ h1 σ' _ (h3.put d h2)
  have rz : ∀ (d:Nat) (u:AV) (op:GO) (b7:List Nat),XE L tm M b7 (λ v M=>xk u tm λ tm=>XO L l K ((d,v)::tm) M) op->AO L (⟨some d,op,none,b7⟩::l) k st (SQ Q):=by
   intro d u op b7 hx;refine kY hr hx rfl ?_;intro σ' v v' M' g7 h1 h2 h3;obtain ⟨t9,g1,g2⟩:=Al1 h1;exact ih _ _ g2 σ' _ ((show RX σ' t9 M' ⟨st.tm,g7⟩ from ⟨λ j=>(g1 j).elim Or.inl λ e=>by rw[e];exact h3.tm j,h3.sat⟩).put d h2)
  have none_ : ∀ (op:GO) (g:Option (Nat × Bool)) (b7:List Nat),H0 st g=some true->XE L tm M b7 (λ_ M=>XO L l K tm M) op->AO L (⟨none,op,g,b7⟩::l) k st (SQ Q):=by
   intro op g b7 hg hx;refine kY hr hx hg ?_;intro σ' v v' M' g7 h1 h2 h3;exact ih _ _ h1 σ' _ h3
  have pk : ∀ (d:Option Nat) (op:GO) (g:Option (Nat × Bool)) (b7:List Nat),H0 st g=some false->(match d with|some d=>XO L l K ((d,.tup [])::tm) M|none=>XO L l K tm M)->AO L (⟨d,op,g,b7⟩::l) k st (SQ Q):=by
   intro d op g b7 hg hx;rw[Te hg];cases d with
   | none=>exact ih _ _ hx σ _ hr
   | some d=>exact ih _ _ hx σ _ (hr.put d rfl)
  obtain ⟨d,op,g,b7⟩:=o;cases g with
  | none =>
   cases d with
   | none=>exact none_ op none b7 rfl h
   | some d =>
    cases op with
    | app s z b x y=>exact rz d (ex tm x) (.app s z b x y) b7 h
    | _=>exact some_ d _ none b7 rfl h
  | some gw =>
   obtain ⟨g,w⟩:=gw;have h:(match tg tm g with
    | .bool b=>fB (b == w) λ c=>match c,d with
     | true,some d=>XE L tm M b7 (λ v M=>XO L l K ((d,v)::tm) M) op
     | true,none=>XE L tm M b7 (λ_ M=>XO L l K tm M) op
     | false,some d=>XO L l K ((d,.tup [])::tm) M
     | false,none=>XO L l K tm M
    | .tup []=>match d with
     | some d=>XO L l K ((d,.tup [])::tm) M
     | none=>XO L l K tm M
    | _=>False):=by cases d<;>cases op<;>exact h
   split at h
   ·rename_i b e
    rw[U8]at h;have hg:=AiM hr (w:=w) e;cases hb:(b == w)<;>rw[hb]at h hg
    ·exact pk d op _ b7 hg (by cases d<;>exact h)
    ·cases d with
     | none=>exact none_ op _ b7 hg h
     | some d=>exact some_ d op _ b7 hg h
   ·rename_i e
    exact pk d op _ b7 (AiN hr e) (by cases d<;>exact h)
   ·exact h.elim
theorem fP {Q:Tm->Mem->Prop} : ∀ {n:Nat} {k:List It} {tm:Tm} {M:Mem},XK L Q n k tm M->AH L k tm M Q
 | 0,k,tm,M,h=>h
 | n+1,[],tm,M,h=>λ σ st hr=>So.2 ⟨σ,tm,M,hr,h⟩
 | n+1,it::k,tm,M,h=>by
  have h:XS L Q (XK L Q n) (it::k) tm M:=h;have ih : ∀ k tm M,XK L Q n k tm M->AH L k tm M Q:=λ k tm M h=>fP h
  intro σ st hr;cases it with
  | blk id=>exact Sg.2 (ih _ _ _ h σ st hr)
  | du ts ss =>
   simp only[XS,AiH,Z2]at h;cases ss with
   | cons s r=>exact h.elim
   | nil =>
    refine Sk.2 (ih _ _ _ h σ _ ⟨λ j => ?_,hr.sat⟩);rw[eD,aO,tU,lJ,Bool.false_or];cases hc:ts.contains j
    ·simp only[Bool.false_eq_true,if_false,cond_false]
     exact hr.tm j
    ·exact Or.inl rfl
  | lp c=>exact h σ st hr
  | code c =>
   cases c with
   | skip=>exact Sv.2 (ih _ _ _ h σ st hr)
   | ops l d=>exact Sp.2 (tK h (λ t9 M' h'=>ih _ _ _ h') σ st hr)
   | dr c ts ss=>exact Sj.2 (ih _ _ _ h σ st hr)
   | scope c=>exact Ss.2 (ih _ _ _ h σ st hr)
   | seq a b=>exact Su.2 (ih _ _ _ h σ st hr)
   | cond x a b =>
    simp only[XS]at h;split at h
    ·rename_i b' e
     rw[U8]at h;rw[Si (hr.ev e (by intro e;cases e))];cases b'
     ·simpa using ih _ _ _ h σ st hr
     ·simpa using ih _ _ _ h σ st hr
    ·exact h.elim
   | block id c=>exact Sh.2 (ih _ _ _ h σ st hr)
   | loop c=>exact Sn.2 (sI.1 (h σ st hr))
   | exit id =>
    simp only[XS]at h;split at h
    ·rename_i k' e
     exact (Sl e).2 (ih _ _ _ h σ st hr)
    ·exact h.elim
   | ret=>exact Sr.2 ⟨σ,tm,M,hr,h⟩
theorem AkQ (hr:RX σ tm M st) {r:MV} {K:AV->Prop} (h:dT tm M r K) : ∃ v,G5 st r=some (DB σ v)/\K v/\DB σ v=DQ σ v:=by
 cases r with
 | tmp t =>
  simp only[dT]at h;obtain ⟨h1,h2,h3⟩:=zB (σ:=σ) h;refine ⟨_,?_,h3,h2⟩;rcases hr.tm t with e|e
  ·exact absurd e h1
  ·simp only[G5,e]
   cases hv:tg tm t<;>rw[hv]at h h1<;>first|rfl|exact (h:False).elim
 | cell t agg n =>
  simp only[dT]at h;split at h
  ·rename_i key i j e
   split at h
   ·rename_i s cs hm
    cases hi:Nat.beq i 0<;>simp only[hi,cond_true,cond_false]at h;obtain rfl:=DI.1 hi;split at h
    ·rename_i ds hp
     rw[J8]at h;rcases hr.tm t with e'|e'
     ·rw[e]at e';cases e'
     ·have hs:=hr.sat.site _ _ _ hm
      have o8:=hr.sat.blk _ _ _ (GN hm);rw[hs]at o8;have flat : ∀ v,MI agg (ds.map (CZ σ))=some (DB σ v)->G5 st (.cell t agg n)=some (DB σ v):=by
       intro v hv;simp only[G5,e',e,GY,BT.iq,BT.get,hs,o8,CS.blk,List.getElem?_cons_zero,dM hp,hv]
      cases agg
      ·simp only[iv]at h
       split at h
       ·rename_i c
        obtain ⟨_,h1,h2⟩:=zC (σ:=σ) h;refine ⟨c,flat c (by rw[h1];rfl),h2,?_⟩;rw[h1];cases c<;>first|rfl|exact (h:False).elim
       ·exact h.elim
      ·exact ⟨.agg ds,flat _ rfl,h,rfl⟩
    ·exact h.elim
   ·exact h.elim
  ·exact h.elim
theorem pW (hr:RX σ tm M st) : ∀ {l:List MV} {K:List AV->Prop},jH tm M l K -> ∃ vs,l.mapM (G5 st)=some (vs.map (DB σ))/\K vs/\vs.map (DB σ)=vs.map (DQ σ)
 | [],K,h=>⟨[],rfl,h,rfl⟩
 | r::l,K,h=>by
  obtain ⟨v,h1,h2,h3⟩:=AkQ hr (show dT tm M r λ v=>jH tm M l λ vs=>K (v::vs) from h);obtain ⟨vs,h4,h5,h6⟩:=pW hr h2;exact ⟨v::vs,by rw[List.mapM_cons,h1,h4];rfl,h5,by rw[List.map_cons,List.map_cons,h3,h6]⟩
theorem Ob (hs:NX σ st.own M) {q:Bool} : ∀ {l:List AV} {K:List AV->Prop},qP q M l K -> ∃ l',(l.map (DB σ)).mapM (F6 st.own q)=some l'/\K l' /\ ∀ v∈l,DB σ v=DQ σ v
 | [],K,h=>⟨[],rfl,h,λ v hv=>by cases hv⟩
 | v::r,K,h=>by
  obtain ⟨v',h1,h2,_,h0⟩:=qQ hs (show WU q M [] v λ v'=>qP q M r λ r'=>K (v'::r') from h);obtain ⟨l',h3,h4,h5⟩:=Ob hs h2;refine ⟨v'::l',?_,h4,λ u hu => ?_⟩
  ·rw[List.map_cons,List.mapM_cons,show F6 st.own q (DB σ v)=some v' from h1,h3];rfl
  ·rcases List.mem_cons.1 hu with rfl|hu
   ·exact h0
   ·exact h5 u hu
theorem Ali {own:BT} {q:Bool} {v v':AV} (h:F6 own q v=some v'):UH own q v=some v':=by
 cases v with
 | tup vs=>simp [F6,snap]at h
 | _=>exact h
theorem Aj6 {f:AV->Option AV} {x y:AV} {r l':List AV} (h:(x::y::r).mapM f=some l') : ∃ a b c,l'=a::b::c:=by
 rw[List.mapM_cons,List.mapM_cons]at h;cases hx:f x with
 | none=>rw[hx]at h;cases h
 | some a =>
  cases hy:f y with
  | none=>rw[hx,hy]at h;cases h
  | some b =>
   cases hr:r.mapM f with
   | none=>rw[hx,hy,hr]at h;cases h
   | some c =>
    rw[hx,hy,hr]at h;exact ⟨a,b,c,(Option.some.inj h).symm⟩
theorem tH {fn:AFn} {r:AV} (hr:RX σ tm M st) (h:V3 fn r tm M):LG fn r st:=by
 unfold V3 at h;obtain ⟨vs,h1,h2,h3⟩:=pW hr h;obtain ⟨l',h4,h5,h6⟩:=Ob hr.sat h2;unfold LG;rw[h1,Option.map_some,Option.bind_some];match vs,l',h4,h5 with
 | [],l',h4,h5 =>
  obtain rfl:=Option.some.inj h4;obtain ⟨e,hc⟩:=h5;exact ⟨by rw[<-e];rfl,hc⟩
 | [v],l',h4,h5 =>
  rw[List.map_cons,List.map_nil,List.mapM_cons]at h4;cases hv:F6 st.own false (DB σ v) with
  | none=>rw[hv]at h4;cases h4
  | some v' =>
   rw[hv]at h4;obtain rfl:=Option.some.inj h4;obtain ⟨e,hc⟩:=h5;exact ⟨by rw[<-e];exact Ali hv,hc⟩
 | v::u::w,l',h4,h5 =>
  obtain ⟨a,b,c,rfl⟩:=Aj6 (show List.mapM (F6 st.own false) (DB σ v::DB σ u::w.map (DB σ))=some l' from h4);obtain ⟨e,hc⟩:=h5;refine ⟨?_,hc⟩;rw[<-e];have h4:List.mapM (F6 st.own false) (DB σ v::DB σ u::w.map (DB σ))=some (a::b::c):=h4;show Option.map AV.tup (List.mapM (F6 st.own false) (DB σ v::DB σ u::w.map (DB σ)))=_;rw[h4];rfl
def V7:AV->Bool
 | .agg cs=>G1 cs
 | v=>ka v
def N5:List AV->Bool
 | []=>true
 | v::r=>bif V7 v then N5 r else false
theorem gS {v:AV} (h:V7 v=true):DB σ v=v:=by
 cases v with
 | agg cs=>simp only[V7]at h;simp only[DB,DQ,MC h]
 | _=>first|rfl|cases h
theorem cA {σ:IJ} : ∀ {vs:List AV} {i:Nat},N5 vs=true -> ∀ j,c7 (EU i vs) j=DB σ (c7 (EU i vs) j)
 | [],_,_,_=>rfl
 | v::r,i,h,j=>by
  simp only[N5]at h;cases hv:V7 v<;>simp only[hv,cond_true,cond_false]at h
  ·cases h
  ·simp only[Ajg,eF]
   split
   ·exact (gS hv).symm
   ·exact cA h j
theorem IV.x {f:Nat} {fn:AFn} {vs:List AV} {r:AV} (hL:L f=some fn) (hp:Nat.beq vs.length fn.s8=true) (hd:N5 vs=true) (h:AH L [.code fn.body] (EU 0 vs) [] (V3 fn r)):IV L f vs r:=by
 refine IV.fwd hL (DI.1 hp) (sJ (h (λ_ _=>(0,0)) ⟨EU 0 vs,BT.emp⟩ ⟨λ j=>Or.inr ?_,?_⟩) ?_)
 ·rw[NM];exact cA hd j
 ·exact ⟨(λ_ _ _ e=>by cases e),(λ_ _ _ e=>by simp [a8,b9]at e),(λ_ _ _ e=>by simp [a8,b9]at e),(λ_ _ _ _ _ _ e=>by simp [a8,b9]at e),(λ_ _ _ e=>by simp [a8,b9]at e)⟩
 ·rintro s ⟨σ,tm,M,hr,hq⟩
  exact tH hr hq
theorem Ev.x {f:Nat} {fn:AFn} {vs:List AV} {r:AV} (hL:L f=some fn) (hp:Nat.beq vs.length fn.s8=true) (hd:N5 vs=true) (h:AH L [.code fn.body] (EU 0 vs) [] (V3 fn r)) (hs:fn.gu=false:=by rfl):Ev L f vs r:=(IV.x hL hp hd h).ev hL hs
def IX:List (Nat × Nat)->Nat->Nat
 | [],k=>k
 | (a,b)::r,k=>bif Nat.beq k a then b else IX r k
def jK (τ:List (Nat × Nat)):AV->AV
 | .row k t z o n => .row (IX τ k) t z o n
 | .ptr k t i j => .ptr (IX τ k) t i j
 | v=>v
def WR (τ:List (Nat × Nat)):List AV->List AV
 | []=>[]
 | v::r=>jK τ v::WR τ r
def aJ (τ:List (Nat × Nat)):AV->AV
 | .agg cs => .agg (WR τ cs)
 | .fn p f g cs => .fn p f g (WR τ cs)
 | v=>jK τ v
def jN (τ:List (Nat × Nat)):List AV->List AV
 | []=>[]
 | v::r=>aJ τ v::jN τ r
def jL (τ:List (Nat × Nat)):AV->AV
 | .tup cs => .tup (jN τ cs)
 | v=>aJ τ v
def jO (τ:List (Nat × Nat)):List (List AV)->List (List AV)
 | []=>[]
 | v::r=>WR τ v::jO τ r
def NJ (τ:List (Nat × Nat)):CS->CS
 | .bx cs => .bx (WR τ cs)
 | .rw z es => .rw z es
 | .bs z es => .bs z (jO τ es)
 | .mx rows => .mx rows
 | .hx i v rows => .hx i v rows
 | .vw w rows => .vw w rows
variable {τ:List (Nat × Nat)}
theorem dU : ∀ l:List AV,WR τ l=l.map (jK τ)
 | []=>rfl
 | v::r=>by rw[WR,dU r];rfl
theorem Kq : ∀ l:List AV,jN τ l=l.map (aJ τ)
 | []=>rfl
 | v::r=>by rw[jN,Kq r];rfl
theorem kB (v:AV):CZ (λ k t=>σ (IX τ k) t) v=CZ σ (jK τ v):=by cases v<;>rfl
theorem rG (v:AV):DQ (λ k t=>σ (IX τ k) t) v=DQ σ (aJ τ v):=by
 cases v with
 | agg cs=>simp only[DQ,aJ,dU,List.map_map];exact congrArg AV.agg (List.map_congr_left λ v _=>kB v)
 | fn p f g cs=>simp only[DQ,aJ,dU,List.map_map];exact congrArg (AV.fn p f g) (List.map_congr_left λ v _=>kB v)
 | _=>rfl
theorem Aln (v:AV):DB (λ k t=>σ (IX τ k) t) v=DB σ (jL τ v):=by
 cases v with
 | tup cs=>simp only[DB,jL,Kq,List.map_map];exact congrArg AV.tup (List.map_congr_left λ v _=>rG v)
 | agg cs=>exact rG (.agg cs)
 | fn p f g cs=>exact rG (.fn p f g cs)
 | _=>rfl
theorem Nf : ∀ l:List (List AV),jO τ l=l.map (WR τ)
 | []=>rfl
 | v::r=>by rw[jO,Nf r];rfl
theorem dE {k:Nat} : ∀ (rows:List (Option (Nat × List (List AV)))) (i:Nat),DZ (λ k t=>σ (IX τ k) t) k i rows=DZ σ (IX τ k) i rows
 | [],i=>rfl
 | none::r,i=>by rw[DZ,DZ,dE r]
 | some (z,es)::r,i=>by rw[DZ,DZ,dE r]
theorem Xw (c:CS) (k:Nat):c.blk (λ k t=>σ (IX τ k) t) k=(NJ τ c).blk σ (IX τ k):=by
 cases c with
 | bx cs =>
  simp only[CS.blk,NJ,dU,List.length_map,List.map_map];rw[List.map_congr_left λ v _=>kB v];rfl
 | rw z es=>rfl
 | bs z es =>
  simp only[CS.blk,NJ,Nf,List.map_map];congr 1;refine List.map_congr_left λ cs _ => ?_
  simp only[Function.comp,dU,List.map_map];exact List.map_congr_left λ v _=>kB v
 | mx rows=>simp only[CS.blk,NJ,dE]
 | hx i v rows=>simp only[CS.blk,NJ,dE]
 | vw w rows=>simp only[CS.blk,NJ,dE]
def nx (k s:Nat) (c:CS):Mem->Mem
 | []=>[(k,s,c)]
 | (j,s',c')::r=>bif Nat.beq k j then (k,s,c)::r else (j,s',c')::nx k s c r
def ga:Mem->Mem
 | []=>[]
 | (k,s,c)::r=>nx k s c (ga r)
theorem Ja (k s:Nat) (c:CS) (j:Nat) : ∀ M:Mem,b9 (nx k s c M) j=bif Nat.beq j k then some (s,c) else b9 M j
 | []=>rfl
 | (i,s',c')::r=>by
  simp only[nx];cases hk:Nat.beq k i
  ·simp only[cond_false,b9,Ja k s c j r]
   cases hj:Nat.beq j i<;>cases hjk:Nat.beq j k<;>simp only[cond_true,cond_false];exact absurd ((DI.1 hjk).symm.trans (DI.1 hj)) (IG.1 hk)
  ·obtain rfl:=DI.1 hk
   simp only[cond_true,b9];cases Nat.beq j k<;>rfl
theorem Z7 (j:Nat) : ∀ M:Mem,b9 (ga M) j=b9 M j
 | []=>rfl
 | (k,s,c)::r=>by simp only[ga,Ja,Z7 j r,b9]
theorem iQ (k t:Nat):a8 (ga M) k t=a8 M k t:=by simp only[a8,Z7]
def nv (τ:List (Nat × Nat)) (M:Mem):List (Nat × Nat × CS)->List (Option (Nat × CS))
 | []=>[]
 | (k,_,_)::r=>b9 M (IX τ k)::nv τ M r
def nw (τ:List (Nat × Nat)):List (Nat × Nat × CS)->List (Option (Nat × CS))
 | []=>[]
 | (_,s,c)::r=>some (s,NJ τ c)::nw τ r
def Ay (tm:Tm):Tm->List AV
 | []=>[]
 | (j,_)::r=>tg tm j::Ay tm r
def Az (τ:List (Nat × Nat)):Tm->List AV
 | []=>[]
 | (_,v)::r=>jL τ v::Az τ r
def iW:List Nat->Bool
 | []=>true
 | k::r=>bif VF k r then false else iW r
def keys (τ:List (Nat × Nat)):Mem->List Nat
 | []=>[]
 | (k,_,_)::r=>IX τ k::keys τ r
theorem Iz : ∀ {M':Mem} {M:Mem},nv τ M M'=nw τ M' -> ∀ k s c,b9 M' k=some (s,c)->b9 M (IX τ k)=some (s,NJ τ c)
 | [],_,_,_,_,_,e=>by cases e
 | (i,s',c')::r,M,h,k,s,c,e=>by
  simp only[nv,nw,List.cons.injEq]at h;simp only[b9]at e;cases hb:Nat.beq k i<;>simp only[hb,cond_true,cond_false]at e
  ·exact Iz h.2 k s c e
  ·simp only[Option.some.injEq,Prod.mk.injEq]at e
   obtain ⟨rfl,rfl⟩:=e;rw[DI.1 hb];exact h.1
theorem oU : ∀ {M:Mem} {k s:Nat} {c:CS},b9 M k=some (s,c)->VF (IX τ k) (keys τ M)=true
 | (i,s',c')::r,k,s,c,e=>by
  simp only[b9]at e;simp only[keys,VF];cases hb:Nat.beq k i<;>simp only[hb,cond_true,cond_false]at e
  ·rw[oU e];cases Nat.beq (IX τ k) (IX τ i)<;>rfl
  ·rw[DI.1 hb];simp
theorem Ii : ∀ {M:Mem},iW (keys τ M)=true -> ∀ {k k' s s':Nat} {c c':CS},b9 M k=some (s,c)->b9 M k'=some (s',c')->IX τ k=IX τ k'->k=k'
 | [],_,_,_,_,_,_,_,e,_,_=>by cases e
 | (i,s0,c0)::r,h,k,k',s,s',c,c',e,e',hk=>by
  simp only[keys,iW]at h;cases hm:VF (IX τ i) (keys τ r)<;>simp only[hm,cond_true,cond_false]at h
  ·simp only[b9]at e e'
   cases hb:Nat.beq k i<;>cases e7:Nat.beq k' i<;>simp only[hb,e7,cond_true,cond_false]at e e'
   ·exact Ii h e e' hk
   ·obtain rfl:=DI.1 e7
    have:=oU (τ:=τ) e
    rw[hk,hm]at this;cases this
   ·obtain rfl:=DI.1 hb
    have:=oU (τ:=τ) e'
    rw[<-hk,hm]at this;cases this
   ·exact (DI.1 hb).trans (DI.1 e7).symm
  ·cases h
theorem Mh : ∀ {t9:Tm} {tm:Tm},Ay tm t9=Az τ t9 -> ∀ j,tg t9 j = .any\/tg tm j=jL τ (tg t9 j)
 | [],_,_,_=>Or.inl rfl
 | (i,v)::r,tm,h,j=>by
  simp only[Ay,Az,List.cons.injEq]at h;simp only[tg];cases hb:Nat.beq j i<;>simp only[cond_true,cond_false]
  ·exact Mh h.2 j
  ·rw[DI.1 hb];exact Or.inr h.1
def o7 (ts:List Nat) (tm:Tm):Tm:=match ts with
 | []=>tm
 | t::ts=>me (mask 0 (t::ts)) tm
def TR (τ:List (Nat × Nat)) (tm:Tm) (M:Mem) (t9:Tm) (M':Mem):Prop :=
 fT (me 0 t9) λ l=>fM (ga M') λ m=>Ay tm l=Az τ l/\nv τ M m=nw τ m/\iW (keys τ m)=true
theorem DE {k:List It} {t9:Tm} {M':Mem} {Q:Tm->Mem->Prop} (τ:List (Nat × Nat)) (he:TR τ tm M t9 M') (h:AH L k t9 M' Q):AH L k tm M Q:=by
 unfold TR at he;rw[Z2,N8]at he;obtain ⟨ht,hm,hn⟩:=he;intro σ st hr;have hg : ∀ k s c,b9 M' k=some (s,c)->b9 M (IX τ k)=some (s,NJ τ c):=λ k s c e=>Iz hm k s c (by rw[Z7];exact e)
 have uv : ∀ k t c,a8 M' k t=some c->a8 M (IX τ k) t=some (NJ τ c):=by
  intro k t c e;obtain ⟨s,c0,g1,g2,g3⟩:=KW e;have:=hg k s c0 g1;cases t with
  | zero=>rw[g2 rfl];exact GN this
  | succ i =>
   obtain ⟨rows,z,es,(rfl|⟨a,v,rfl⟩)|⟨w,rfl⟩,hr,rfl⟩:=g3 i rfl
   ·simp [a8,this,NJ,hr]
   ·simp [a8,this,NJ,hr]
   ·simp [a8,this,NJ,hr]
 refine h (λ k t=>σ (IX τ k) t) st ⟨λ j => ?_,⟨?_,?_,?_,?_,?_⟩⟩
 ·have:=Mh ht j
  rw[eD,lJ,cond_false]at this;rcases this with e|e
  ·exact Or.inl e
  ·rcases hr.tm j with e'|e'
   ·left
    rw[e']at e;cases hv:tg t9 j<;>rw[hv]at e<;>first|rfl|cases e
   ·right
    rw[e',e,Aln]
 ·intro k s c e;exact hr.sat.site _ _ _ (hg k s c e)
 ·intro k t c e;rw[Xw];exact hr.sat.blk _ _ _ (uv k t c e)
 ·intro k t c e;exact hr.sat.old _ _ _ (uv k t c e)
 ·intro k t k' t' c c' e e' hk
  obtain ⟨q1,q2⟩:=hr.sat.inj _ _ _ _ _ _ (uv _ _ _ e) (uv _ _ _ e') hk;obtain ⟨s,c0,g,_⟩:=KW e;obtain ⟨s',c0',g',_⟩:=KW e';exact ⟨Ii hn (by rw[Z7];exact g) (by rw[Z7];exact g') q1,q2⟩
 ·intro k t c e hw
  exact hr.sat.low _ _ _ (uv k t c e) (by cases c<;>exact hw)
theorem C7 {k:List It} {t9:Tm} {M':Mem} {Q:Tm->Mem->Prop} (τ:List (Nat × Nat)) (h:AH L k t9 M' Q) (he:TR τ tm M t9 M':=by (conv=>whnf);exact ⟨rfl,rfl,rfl⟩):AH L k tm M Q:=DE τ he h
theorem sF {k:List It} {Q:Tm->Mem->Prop} (h:AH L k (me 0 tm) (ga M) Q):AH L k tm M Q:=by
 intro σ st hr;refine h σ st ⟨λ j => ?_,⟨?_,?_,?_,?_,?_⟩⟩
 ·rw[eD,lJ,cond_false];exact hr.tm j
 ·intro k s c e;rw[Z7]at e;exact hr.sat.site _ _ _ e
 ·intro k t c e;rw[iQ]at e;exact hr.sat.blk _ _ _ e
 ·intro k t c e;rw[iQ]at e;exact hr.sat.old _ _ _ e
 ·intro k t k' t' c c' e e' hk
  rw[iQ]at e e';exact hr.sat.inj _ _ _ _ _ _ e e' hk
 ·intro k t c e hw;rw[iQ]at e;exact hr.sat.low _ _ _ e hw
def mc (k:Nat) (c:CS):Mem->Mem
 | []=>[]
 | (j,s,c')::r=>bif Nat.beq k j then (j,s,c)::r else (j,s,c')::mc k c r
theorem iO {k j s:Nat} {c c':CS} : ∀ {M:Mem},b9 (mc k c M) j=some (s,c') -> ∃ c0,b9 M j=some (s,c0)/\(c0=c'\/(j=k/\c'=c))
 | [],e=>by cases e
 | (i,s0,c0)::r,e=>by
  simp only[mc]at e;cases hk:Nat.beq k i<;>simp only[hk,cond_true,cond_false,b9]at e ⊢
  ·cases hj:Nat.beq j i<;>simp only[hj,cond_true,cond_false]at e ⊢
   ·exact iO e
   ·exact ⟨c',e,Or.inl rfl⟩
  ·cases hj:Nat.beq j i<;>simp only[hj,cond_true,cond_false]at e ⊢
   ·exact ⟨c',e,Or.inl rfl⟩
   ·simp only[Option.some.injEq,Prod.mk.injEq]at e
    obtain ⟨rfl,rfl⟩:=e;exact ⟨c0,rfl,Or.inr ⟨(DI.1 hj).trans (DI.1 hk).symm,rfl⟩⟩
theorem eG {kk:List It} {Q:Tm->Mem->Prop} (k s:Nat) (e:b9 M k=some (s,.rw 1 [])) (h:AH L kk tm (mc k (.mx []) M) Q):AH L kk tm M Q:=by
 intro σ st hr;have hg : ∀ j t c,a8 (mc k (.mx []) M) j t=some c -> ∃ c0,a8 M j t=some c0/\c0.blk σ j=c.blk σ j:=by
  intro j t c g;obtain ⟨s1,c1,g1,g2,g3⟩:=KW g;obtain ⟨c0,q1,q2⟩:=iO g1;cases t with
  | zero =>
   rw[g2 rfl];rcases q2 with rfl|⟨rfl,rfl⟩
   ·exact ⟨_,GN q1,rfl⟩
   ·rw[e]at q1
    simp only[Option.some.injEq,Prod.mk.injEq]at q1;obtain ⟨rfl,rfl⟩:=q1;exact ⟨_,GN e,rfl⟩
  | succ i =>
   obtain ⟨rows,z,es,(rfl|⟨a,v,rfl⟩)|⟨w,rfl⟩,ri,rfl⟩:=g3 i rfl
   ·rcases q2 with rfl|⟨rfl,h0⟩
    ·exact ⟨.rw z es,by simp [a8,q1,ri],rfl⟩
    ·obtain rfl:rows=[]:=by simpa using h0
     simp at ri
   ·rcases q2 with rfl|⟨rfl,h0⟩
    ·exact ⟨.rw z es,by simp [a8,q1,ri],rfl⟩
    ·cases h0
   ·rcases q2 with rfl|⟨rfl,h0⟩
    ·exact ⟨.rw z es,by simp [a8,q1,ri],rfl⟩
    ·cases h0
 refine h σ st ⟨hr.tm,⟨?_,?_,?_,?_,?_⟩⟩
 ·intro j s' c g
  obtain ⟨c0,q1,_⟩:=iO g;exact hr.sat.site _ _ _ q1
 ·intro j t c g
  obtain ⟨c0,q1,q2⟩:=hg j t c g;rw[<-q2];exact hr.sat.blk _ _ _ q1
 ·intro j t c g
  obtain ⟨c0,q1,_⟩:=hg j t c g;exact hr.sat.old _ _ _ q1
 ·intro j t j' t' c c' g g' hj
  obtain ⟨_,q1,_⟩:=hg j t c g;obtain ⟨_,q2,_⟩:=hg j' t' c' g';exact hr.sat.inj _ _ _ _ _ _ q1 q2 hj
 ·intro j t c g hw
  cases t with
  | zero =>
   obtain ⟨s1,c1,g1,g2,g3⟩:=KW g;obtain ⟨c0,q1,q2⟩:=iO g1;have g2:=g2 rfl;subst g2;rcases q2 with rfl|⟨rfl,rfl⟩
   ·exact hr.sat.low _ _ _ (GN q1) hw
   ·exact hr.sat.low _ _ _ (GN e) rfl
  | succ t =>
   obtain ⟨c0,q1,_⟩:=hg _ _ _ g;exact hr.sat.low _ _ _ q1 (iR q1)
theorem W4 {k:List It} {c:C4} {Q:Tm->Mem->Prop} (h:AH L (.code c :: .lp c::k) tm M Q):AH L (.lp c::k) tm M Q:=λ σ st hr=>sI.2 (h σ st hr)
theorem Y7 {α:Type} {k:List It} {c:C4} {Q:Tm->Mem->Prop} (m:α->Nat) (P:α->Prop) (vs:α->Tm) (Ms:α->Mem) (ts:List Nat) (τ:List (Nat × Nat)) (a:α)
  (he:TR τ tm M (vs a++o7 ts tm) (Ms a++M)) (hp:P a)
  (step : ∀ a,P a->(∀ a',m a'<m a->P a'->AH L (.lp c::k) (vs a'++o7 ts tm) (Ms a'++M) Q)->AH L (.code c :: .lp c::k) (vs a++o7 ts tm) (Ms a++M) Q):AH L (.lp c::k) tm M Q:=by
 have key : ∀ n a,m a<n->P a->AH L (.lp c::k) (vs a++o7 ts tm) (Ms a++M) Q:=by
  intro n;induction n with
  | zero=>intro a h;omega
  | succ n ih =>
   intro a ha hp;exact W4 (step a hp λ a' h1 h2=>ih a' (by omega) h2)
 exact DE τ he (key (m a+1) a (by omega) hp)
end
end Go.Eng
namespace Go.Eng
section
variable {α:Type} {enc:α->List AV} {l:List α} {L:Lib}
theorem BR {p q A B:Prop} (h1:p->A) (h2:q->B):BJ p q A B:=⟨h1,h2⟩
theorem CE {p A:Prop} (h1:p) (h2:A):B1 p A:=⟨h1,h2⟩
section
variable {K:AV->Prop} {a b:Int} {k k':IntKind} {op:BinOp}
theorem eR {v:AV} (h:F4 op k a k' b=some v) (hk:K v):BD op k a k' b K:=⟨v,h,hk⟩
theorem CJ (hr : -9223372036854775808<=a+b/\a+b<=9223372036854775807) (hk:K (.int .i64 (a+b))):BD .add .i64 a .i64 b K:=⟨_,by simp only[F4,if_true];rw[IntWalk.i64_in _ hr],hk⟩
theorem D5 (hr : -9223372036854775808<=a-b/\a-b<=9223372036854775807) (hk:K (.int .i64 (a-b))):BD .sub .i64 a .i64 b K:=⟨_,by simp only[F4,if_true];rw[IntWalk.i64_in _ hr],hk⟩
theorem NW (hr : -9223372036854775808<=a*b/\a*b<=9223372036854775807) (hk:K (.int .i64 (a*b))):BD .mul .i64 a .i64 b K:=⟨_,by simp only[F4,if_true];rw[IntWalk.i64_in _ hr],hk⟩
theorem ZG (hb:0<b) (h1:(0<=a\/a%b=0)->0<=a%b->a%b<b->K (.int .i64 (a%b))) (h2:a<0->a%b≠0->0<=a%b->a%b<b->K (.int .i64 (a%b-b))):BD .rem .i64 a .i64 b K:=by
 have h5:0<=a%b:=Int.emod_nonneg _ (by omega);have h6:a%b<b:=Int.emod_lt_of_pos _ hb;have e:F4 .rem .i64 a .i64 b=some (.int .i64 (a.tmod b)):=by simp only[F4];rw[if_pos ⟨trivial,by omega⟩]
 by_cases hc:0<=a\/a%b=0
 ·rw[Mi hb,if_pos hc]at e
  exact ⟨_,e,h1 hc h5 h6⟩
 ·rw[Mi hb,if_neg hc]at e
  exact ⟨_,e,h2 (by omega) (by omega) h5 h6⟩
theorem XA (hb:0<b) (ha : -9223372036854775808<=a/\a<=9223372036854775807) (h1:(0<=a\/a%b=0)->K (.int .i64 (a/b))) (h2:a<0->a%b≠0->K (.int .i64 (a/b+1))):BD .quo .i64 a .i64 b K:=by
 have hr:=Yk (m:=b) (by omega) ha;have e:F4 .quo .i64 a .i64 b=some (.int .i64 (IntKind.i64.wrap (a.tdiv b))):=by simp only[F4];rw[if_pos ⟨trivial,by omega⟩]
 by_cases hc:0<=a\/a%b=0
 ·rw[Mg hb,if_pos hc,IntWalk.i64_in _ hr]at e
  exact ⟨_,e,h1 hc⟩
 ·have AsJ:a/b<0:=Int.ediv_neg_of_neg_of_pos (by omega) hb
  rw[Mg hb,if_neg hc,IntWalk.i64_in _ (by omega)]at e;exact ⟨_,e,h2 (by omega) (by omega)⟩
theorem Vh (h:0<=b/\b<=63) (hk:K (.int .i64 (a/pw b))):BD .shr .i64 a k' b K:=⟨_,Ala h,hk⟩
theorem Vk (hk:K (.int k (k.wrap (a+b)))):BD .add k a k b K:=⟨_,by simp only[F4,if_true],hk⟩
theorem EZ.neg (hr : -9223372036854775808 <= -a /\ -a<=9223372036854775807) (hk:K (.int .i64 (-a))):EZ .neg .i64 a K:=⟨_,by simp only[W3];rw[show (0:Int)-a = -a by omega,IntWalk.i64_in _ hr],hk⟩
theorem EZ.go {op:UnOp} {v:AV} (h:W3 op (.int k a)=some v) (hk:K v):EZ op k a K:=⟨v,h,hk⟩
end
theorem Al7 {k:IntKind} {n:Int} {K:Int->Prop} (h:K (k.wrap n)):CF k n K:=h
theorem aU {k:IntKind} {n:Int} {K:Int->Prop} (e:k.wrap n=n) (h:K n):CF k n K:=by unfold CF;rw[e];exact h
theorem EJ {n:Int} {K:Int->Prop} (hr:0<=n/\n<=18446744073709551615) (h:K n):CF .u64 n K:=aU (IntWalk.u64_in _ hr) h
theorem W5 {n:Int} {K:Int->Prop} (hr : -9223372036854775808<=n/\n<=9223372036854775807) (h:K n):CF .i64 n K:=aU (IntWalk.i64_in _ hr) h
theorem CY {a:Int} {z:Nat} {K:List AV->Prop} {e:α} (he:l[a.toNat]? = some e) (h0:0<=a) (hz:(enc e).length=z) (h:K (enc e)):CG (l.map enc) a z K:=⟨h0,enc e,by simp [he],hz,h⟩
theorem kX {a:Int} {z:Nat} {K:List AV->Prop} (h0:0<=a/\a<l.length) (hz : ∀ e,(enc e).length=z) (h : ∀ e,l[a.toNat]? = some e->K (enc e)):CG (l.map enc) a z K:=by
 have he:l[a.toNat]? = some (l[a.toNat]'(by omega)):=zE _;exact CY he h0.1 (hz _) (h _ he)
theorem Vn {n z:Nat} {K:List AV->Prop} (hn:n<l.length) (hz : ∀ e,(enc e).length=z) (h : ∀ e,l[n]? = some e->K (enc e)):CG (l.map enc) (n:Int) z K :=
 kX ⟨by omega,by omega⟩ hz h
theorem HZ {i j n:Nat} {K:List AV->Prop} {f:α->List AV} (hi:i<l.length) (hp : ∀ e,part (enc e) j n=some (f e)) (h : ∀ e,l[i]? = some e->K (f e)):CR (l.map enc) (0+((i:Int)).toNat) j n K:=by
 have he:l[i]? = some l[i]:=zE _;rw[Nat.zero_add,Int.toNat_natCast];exact ⟨enc l[i],f l[i],by simp [he],hp _,h _ he⟩
theorem aZ {i:Int} {j n:Nat} {K:List AV->Prop} {f:α->List AV} (hi:0<=i/\i<l.length) (hp : ∀ e,part (enc e) j n=some (f e)) (h : ∀ e,l[i.toNat]? = some e->K (f e)):CR (l.map enc) (0+i.toNat) j n K:=by
 have hl:i.toNat<l.length:=by omega
 have he:l[i.toNat]? = some l[i.toNat]:=zE _;rw[Nat.zero_add];exact ⟨enc l[i.toNat],f l[i.toNat],by rw[List.getElem?_map,he];rfl,hp _,h _ he⟩
theorem G8 {i:Nat} {vs:List AV} {K:List (List AV)->Prop} (e:α) (he:vs=enc e) (hz : ∀ x,(enc x).length=vs.length) (hi:i<l.length) (h:K ((l.set i e).map enc)):CU (l.map enc) (0+((i:Int)).toNat) 0 vs K:=by
 rw[Nat.zero_add,Int.toNat_natCast];refine ⟨enc l[i],by simp [zE hi],by rw[hz];omega,?_⟩;rw[show splice (enc l[i]) 0 vs=vs by simp [splice,<-hz l[i]],he,<-List.map_set];exact h
theorem W8 {i j n:Nat} {K:List AV->Prop} {e:α} {ds:List AV} (he:l[i]? = some e) (hp:part (enc e) j n=some ds) (h:K ds):CR (l.map enc) i j n K:=⟨enc e,ds,by simp [he],hp,h⟩
theorem Va {i j n:Nat} {K:List AV->Prop} (f:α->List AV) (hi:i<l.length) (hp : ∀ e,part (enc e) j n=some (f e)) (h : ∀ e,l[i]? = some e->K (f e)):CR (l.map enc) i j n K:=by
 have he:l[i]? = some l[i]:=zE _;exact W8 he (hp _) (h _ he)
theorem Alm {cs vs:List AV} (h:cs.length=vs.length):splice cs 0 vs=vs:=by
 simp [splice,<-h]
theorem Vs {i:Nat} {vs:List AV} {K:List (List AV)->Prop} (e:α) (he:vs=enc e) (hz : ∀ x,(enc x).length=vs.length) (hi:i<l.length) (h:K ((l.set i e).map enc)):CU (l.map enc) i 0 vs K:=by
 refine ⟨enc l[i],by simp [zE hi],by rw[hz];omega,?_⟩;rw[Alm (hz _),he,<-List.map_set];exact h
theorem GU {a b:Int} {bytes:Nat} {zero:List AV} {K:List (List AV)->Nat->Prop} (x:α) (n:Nat) (hx:zero=enc x) (hn:a=n) (hr:a<=b/\b*bytes<=140737488355328/\b<=9223372036854775807) (h:K ((List.replicate n x).map enc) n):DW a b bytes zero K:=by
 subst hn hx;refine ⟨⟨by omega,hr.1,by simpa [FR] using hr.2.1,hr.2.2⟩,?_⟩;simpa using h
theorem Amd {a b:Int} {bytes:Nat} {zero:List AV} {K:List (List AV)->Nat->Prop} (x:α) (hx:zero=enc x) (h0:0<=a) (hr:a<=b/\b*bytes<=140737488355328/\b<=9223372036854775807) (h:K ((List.replicate a.toNat x).map enc) a.toNat):DW a b bytes zero K:=by
 subst hx;refine ⟨⟨h0,hr.1,by simpa [FR] using hr.2.1,hr.2.2⟩,?_⟩;simpa using h
theorem CB {K:Nat->Prop} (h:K l.length):B5 (l.map enc) K:=by unfold B5;simpa using h
theorem HP {len z bytes:Nat} {vs:List AV} {K:List (List AV)->Nat->Prop} (e:α) (he:vs=enc e) (hl:len=l.length) (hz:vs.length=z) (hr:(l.length+1)*bytes<=140737488355328) (v7:l.length+1<=9223372036854775807) (h:K ((l++[e]).map enc) (l++[e]).length):DT (l.map enc) len [vs] z bytes K:=by
 subst hl;refine ⟨by simp,by simpa using hz,by simpa [FR] using hr,by simpa using v7,?_⟩;rw[List.take_of_length_le (by simp)];simpa [he] using h
theorem eH {len z bytes:Nat} {l':List α} {K:List (List AV)->Nat->Prop} (hl:len=l.length) (hz : ∀ x,(enc x).length=z) (hr:(l.length+l'.length)*bytes<=140737488355328) (v7:l.length+l'.length<=9223372036854775807) (h:K ((l++l').map enc) (l++l').length):DT (l.map enc) len (l'.map enc) z bytes K:=by
 subst hl;refine ⟨by simp,by simp [hz],by simpa [FR] using hr,by simpa using v7,?_⟩;rw[List.take_of_length_le (by simp)];simpa using h
theorem ZA {z bytes:Nat} {vs:List AV} {K:List (List AV)->Nat->Prop} (e:α) (he:vs=enc e) (hz:vs.length=z) (hb:bytes<=140737488355328) (h:K ([e].map enc) 1):EG [vs] z bytes K :=
 ⟨by simpa using hz,by simpa [FR] using hb,by simp,by simpa [he] using h⟩
theorem VW {z bytes:Nat} {K:List (List AV)->Nat->Prop} (hz : ∀ x,(enc x).length=z) (hr:l.length*bytes<=140737488355328) (v7:l.length<=9223372036854775807) (h:K (l.map enc) l.length):EG (l.map enc) z bytes K :=
 ⟨by simp [hz],by simpa [FR] using hr,by simpa using v7,by simpa using h⟩
theorem Al9 {len z:Nat} {l':List α} {K:List (List AV)->Nat->Prop} (hl:len=l.length) (Gf:l'.length=l.length) (hz : ∀ x,(enc x).length=z) (h:K (l'.map enc) l'.length):F7 (l.map enc) 0 len (l'.map enc) z K:=by
 subst hl;refine ⟨by simp,by simp [hz],?_⟩;have e:min (l'.map enc).length l.length=l.length:=by simp [Gf]
 rw[e,List.take_zero,List.nil_append,List.take_of_length_le (by simp [Gf]),List.drop_of_length_le (by simp),List.append_nil,<-Gf];exact h
theorem Ame {off len:Nat} {K:List (List AV)->Prop} (ho:off=0) (hl:len=l.length) (h:K (l.map enc)):DM (l.map enc) off len K:=by
 subst hl ho;exact ⟨by simp,by rw[List.drop_zero,List.take_of_length_le (by simp)];exact h⟩
theorem fI {off len:Nat} {K:List (List AV)->Prop} (hl:off+len<=l.length) (h:K (((l.drop off).take len).map enc)):DM (l.map enc) off len K :=
 ⟨by simpa using hl,by rw[<-List.map_drop,<-List.map_take];exact h⟩
theorem dG : ∀ {e:List AV},IO e=true->QF e=true/\e.map nl=e
 | [],_=>⟨rfl,rfl⟩
 | v::r,h=>by
  have hv:IO r=true:=by cases v<;>simp only[IO]at h<;>first|cases h|exact h
  obtain ⟨h1,h2⟩:=dG hv;cases v<;>simp only[IO]at h<;>first|cases h|exact ⟨h1,by rw[List.map_cons,h2];rfl⟩
theorem Le : ∀ {es:List (List AV)},(∀ e∈es,IO e=true)->es.map (λ e=>e.map nl)=es
 | [],_=>rfl
 | e::r,h=>by rw[List.map_cons,(dG (h e List.mem_cons_self)).2,Le λ x hx=>h x (List.mem_cons_of_mem _ hx)]
theorem fJ {es:List (List AV)} {off len:Nat} {K:List (List AV)->Prop} (hl:off+len<=es.length) (hz : ∀ e∈es,IO e=true) (h:K ((es.drop off).take len)):CQ es off len K :=
 ⟨hl,λ e he=>(dG (hz e he)).1,by rw[Le λ e he=>hz e (List.mem_of_mem_drop (List.mem_of_mem_take he))];exact h⟩
theorem GK {off len:Nat} {K:List (List AV)->Prop} (hz : ∀ x,IO (enc x)=true) (ho:off=0) (hl:len=l.length) (h:K (l.map enc)):CQ (l.map enc) off len K:=by
 subst hl ho;refine fJ (by simp) (λ e he => ?_) (by rw[List.drop_zero,List.take_of_length_le (by simp)];exact h);obtain ⟨x,_,rfl⟩:=List.mem_map.1 he;exact hz x
theorem J5 {off len:Nat} {K:List (List AV)->Prop} (hz : ∀ x,IO (enc x)=true) (hl:off+len<=l.length) (h:K (((l.drop off).take len).map enc)):CQ (l.map enc) off len K:=by
 refine fJ (by simpa using hl) (λ e he => ?_) (by rw[<-List.map_drop,<-List.map_take];exact h);obtain ⟨x,_,rfl⟩:=List.mem_map.1 he;exact hz x
theorem Amf {K:List (List AV)->Prop} (h:K []):DM [] 0 0 K:=⟨by simp,h⟩
theorem G0 {e:List AV} {K:List (List AV)->Prop} (h:K [e]):DM [e] 0 1 K:=⟨by simp,h⟩
theorem Amg {e e':List AV} {K:List (List AV)->Prop} (h:K [e,e']):DM [e,e'] 0 2 K:=⟨by simp,h⟩
theorem Ami {K:List (List AV)->Prop} (h:K []):CQ [] 0 0 K:=⟨by simp,by simp,h⟩
theorem KM {e:List AV} {K:List (List AV)->Prop} (h0:IO e=true) (h:K [e]):CQ [e] 0 1 K:=fJ (by simp) (by simpa using h0) h
theorem ZI {e e':List AV} {K:List (List AV)->Prop} (h0:IO e=true) (h1:IO e'=true) (h:K [e,e']):CQ [e,e'] 0 2 K:=fJ (by simp) (by simpa using ⟨h0,h1⟩) h
theorem Amj {e':List AV} {K:List (List AV)->Prop} (h1:IO e'=true) (h:K [[.sl false []],e']):CQ [[.nil],e'] 0 2 K :=
 ⟨by simp,by simpa using ⟨rfl,(dG h1).1⟩,by simpa [(dG h1).2,nl] using h⟩
section
variable {β:Type} {z:Nat} {ll:List (List β)} {en:β->List AV}
abbrev C1 (z:Nat) (en:β->List AV) (ll:List (List β)):List (Option (Nat × List (List AV))):=ll.map λ r=>some (z,r.map en)
theorem HJ {i:Nat} {K:Option (Nat × List (List AV))->Prop} (hi:i<ll.length) (h : ∀ r,ll[i]? = some r->K (some (z,r.map en))):DC (C1 z en ll) (0+((i:Int)).toNat) K:=by
 have he:ll[i]? = some ll[i]:=zE _;exact ⟨_,by rw[Nat.zero_add,Int.toNat_natCast,List.getElem?_map,he];rfl,h _ he⟩
theorem Ama {i:Int} {K:Option (Nat × List (List AV))->Prop} (hi:0<=i/\i<ll.length) (h : ∀ r,ll[i.toNat]? = some r->K (some (z,r.map en))):DC (C1 z en ll) (0+i.toNat) K:=by
 have hl:i.toNat<ll.length:=by omega
 have he:ll[i.toNat]? = some ll[i.toNat]:=zE _;exact ⟨_,by rw[Nat.zero_add,List.getElem?_map,he];rfl,h _ he⟩
theorem Sd {i:Nat} {K:Nat->List (List AV)->Prop} {r:List β} (hr:ll[i]? = some r) (h:K z (r.map en)):C9 (C1 z en ll) i K :=
 ⟨z,r.map en,by rw[List.getElem?_map,hr];rfl,h⟩
theorem H8 {i:Nat} {K:Nat->List (List AV)->Prop} {r:List β} (hr:ll[i]? = some r) (h:K z (r.map en)):C9 (C1 z en ll) (0+((i:Int)).toNat) K:=by
 rw[Nat.zero_add,Int.toNat_natCast];exact Sd hr h
theorem Amh {i:Nat} {r:List β} {K:List (Option (Nat × List (List AV)))->Prop} (hi:i<ll.length) (h:K (C1 z en (ll.set i r))):EI (C1 z en ll) (0+((i:Int)).toNat) z (r.map en) K:=by
 rw[Nat.zero_add,Int.toNat_natCast];exact ⟨by simpa using hi,by simpa [C1,List.map_set] using h⟩
theorem fG {i:Nat} {r r':List β} {K:List (Option (Nat × List (List AV)))->Prop} (hl:r'.length=r.length) (h:K (C1 z en (ll.set i r'))):ET (C1 z en ll) (0+((i:Int)).toNat) z (r.map en) (r'.map en) K:=by
 rw[Nat.zero_add,Int.toNat_natCast];exact ⟨by simpa using hl,by simpa [C1,List.map_set] using h⟩
theorem Y8 {len bytes:Nat} {r:List β} {K:List (Option (Nat × List (List AV)))->Nat->Prop} (hl:len=ll.length) (hr:(ll.length+1)*bytes<=140737488355328) (v7:ll.length+1<=9223372036854775807) (h:K (C1 z en (ll++[r])) (ll++[r]).length):E7 (C1 z en ll) len (some (z,r.map en)) bytes K:=by
 subst hl;exact ⟨by simp,by simpa [FR] using hr,v7,by simpa [C1] using h⟩
theorem Al5 {rows:List (Option (Nat × List (List AV)))} {len bytes:Nat} {r:Option (Nat × List (List AV))} {K:List (Option (Nat × List (List AV)))->Nat->Prop} (hl:len=rows.length) (hr:(rows.length+1)*bytes<=140737488355328) (v7:rows.length+1<=9223372036854775807) (h:K (rows++[r]) (rows++[r]).length):E7 rows len r bytes K:=by
 subst hl;exact ⟨rfl,by simpa [FR] using hr,v7,by simpa using h⟩
theorem Ni (q:Bool) : ∀ ll:List (List β),WS q (C1 z en ll)=ll.map λ r=>[AV.sl q (r.map en)]
 | []=>rfl
 | r::l=>by simp only[C1,List.map_cons,WS];rw[show WS q (l.map λ r=>some (z,r.map en))=_ from Ni q l]
theorem N1 {q:Bool} {off len:Nat} {K:List (List AV)->Prop} (hz : ∀ x,IO (en x)=true) (ho:off=0) (hl:len=ll.length) (h:K (ll.map λ r=>[AV.sl q (r.map en)])):EW q (C1 z en ll) off len K:=by
 refine ⟨ho,by simpa using hl,λ z' es hm e he => ?_,by rw[Ni];exact h⟩;obtain ⟨r,_,hr⟩:=List.mem_map.1 hm;simp only[Option.some.injEq,Prod.mk.injEq]at hr;obtain ⟨rfl,rfl⟩:=hr;obtain ⟨x,_,rfl⟩:=List.mem_map.1 he;exact hz x
end
theorem Ry {len:Nat} {a:Int} {K:Nat->Nat->Prop} (h0:0<=a/\a<=len) (h:K a.toNat len):DR (some a) none len K:=⟨a.toNat,len,⟨h0.1,rfl⟩,rfl,by omega,h⟩
theorem sL {len:Nat} {b:Int} {K:Nat->Nat->Prop} (h0:0<=b/\b<=len) (h:K 0 b.toNat):DR none (some b) len K:=⟨0,b.toNat,rfl,⟨h0.1,h0.2,rfl⟩,by omega,h⟩
theorem aT {len:Nat} {a b:Int} {K:Nat->Nat->Prop} (h0:0<=a/\a<=b/\b<=len) (h:K a.toNat b.toNat):DR (some a) (some b) len K:=⟨a.toNat,b.toNat,⟨h0.1,rfl⟩,⟨by omega,by omega,rfl⟩,by omega,h⟩
theorem ZH {z:Nat} {lo hi:Option Int} {K:List (List AV)->Prop} (hz : ∀ x,(enc x).length=z) (h:DR lo hi l.length λ a h=>K (((l.take h).drop a).map enc)):EE z (l.map enc) lo hi K:=by
 refine ⟨by simp [hz],?_⟩;rw[List.length_map];obtain ⟨a,b,h1,h2,h3,h4⟩:=h;refine ⟨a,b,h1,h2,h3,?_⟩;show K _;rw[<-List.map_take,<-List.map_drop];exact h4
theorem US {z k:Nat} {K:List (List AV)->Prop} (hz : ∀ x,(enc x).length=z) (hk:k<=l.length) (h:K ((l.take k).map enc)):EE z (l.map enc) none (some (k:Int)) K :=
 ZH hz (sL (by omega) (by simpa using h))
theorem Vr {z k:Nat} {K:List (List AV)->Prop} (hz : ∀ x,(enc x).length=z) (hk:k<=l.length) (h:K ((l.drop k).map enc)):EE z (l.map enc) (some (k:Int)) none K :=
 ZH hz (Ry (by omega) (by simpa using h))
theorem BH {f:Nat} {vs:List AV} {K:AV->Prop} {r:AV} (h:Ev L f vs r) (hk:K r):AR L f vs K:=⟨r,h,hk⟩
theorem sM {f:Nat} {vs:List AV} {K:AV->Prop} {p:Prop} [Decidable p] (h:Ev L f vs (.bool (decide p))) (h1:p->K (.bool true)) (h2 : ¬ p->K (.bool false)):AR L f vs K:=by
 refine ⟨_,h,?_⟩;by_cases e:p
 ·rw[decide_eq_true e];exact h1 e
 ·rw[decide_eq_false e];exact h2 e
theorem Al6 {f:Nat} {vs:List AV} {K:AV->Prop} {b:Bool} (h:Ev L f vs (.bool b)) (h1:b=true->K (.bool true)) (h2:b=false->K (.bool false)):AR L f vs K:=by
 refine ⟨_,h,?_⟩;cases b
 ·exact h2 rfl
 ·exact h1 rfl
theorem CK {a r:AV} (h:a=r) (hc:CT r):BW a r:=⟨h,hc⟩
theorem I5 {a r:Bool} (h:a=r):BW (.bool a) (.bool r):=⟨by rw[h],by simp [CT]⟩
theorem sR {p:Prop} [Decidable p] (h:p):BW (.bool true) (.bool (decide p)):=⟨by simp [h],by simp [CT]⟩
theorem eK {p:Prop} [Decidable p] (h : ¬ p):BW (.bool false) (.bool (decide p)):=⟨by simp [h],by simp [CT]⟩
theorem FF {k:IntKind} {a b:Int} (h:a=b):BW (.int k a) (.int k b):=⟨by rw[h],by simp [CT]⟩
theorem bV (h : ∀ x,FG (enc x)) : ∀ l:List α,IR (l.map enc)
 | []=>by simp [IR]
 | x::r=>by rw[List.map_cons,IR];exact ⟨h x,bV h r⟩
end
theorem DG {α:Type} {L:Lib} {k:List It} {cd:C4} {tm:Tm} {M:Mem} {Q:Tm->Mem->Prop} (m:α->Nat) (P:α->Prop) (vs:α->Tm) (Ms:α->Mem) (ts:List Nat) (τ:List (Nat × Nat)) (a:α)
  (he:TR τ tm M (vs a++o7 ts tm) (Ms a++M)) (hp:P a)
  (step : ∀ a,P a->(∀ a',m a'<m a->P a'->AH L (.lp cd::k) (vs a'++o7 ts tm) (Ms a'++M) Q)->AH L (.code cd :: .lp cd::k) (vs a++o7 ts tm) (Ms a++M) Q):AH L (.lp cd::k) tm M Q :=
 Y7 (α:=α) (λ x=>m x) (λ x=>P x) (λ x=>vs x) (λ x=>Ms x) ts τ a he hp λ a h ih=>step a h λ a' h1 h2=>ih a' h1 h2
theorem I4 {α β:Type} {L:Lib} {k:List It} {cd:C4} {tm:Tm} {M:Mem} {Q:Tm->Mem->Prop} (m:α->β->Nat) (P:α->β->Prop) (vs:α->β->Tm) (Ms:α->β->Mem) (ts:List Nat) (τ:List (Nat × Nat)) (a:α) (b:β)
  (he:TR τ tm M (vs a b++o7 ts tm) (Ms a b++M)) (hp:P a b)
  (step : ∀ a b,P a b->(∀ a' b',m a' b'<m a b->P a' b'->AH L (.lp cd::k) (vs a' b'++o7 ts tm) (Ms a' b'++M) Q)->AH L (.code cd :: .lp cd::k) (vs a b++o7 ts tm) (Ms a b++M) Q):AH L (.lp cd::k) tm M Q :=
 Y7 (α:=α × β) (λ x=>m x.1 x.2) (λ x=>P x.1 x.2) (λ x=>vs x.1 x.2) (λ x=>Ms x.1 x.2) ts τ (a,b) he hp λ⟨a,b⟩ h ih=>step a b h λ a' b' h1 h2=>ih (a',b') h1 h2
theorem JL {α β γ:Type} {L:Lib} {k:List It} {cd:C4} {tm:Tm} {M:Mem} {Q:Tm->Mem->Prop} (m:α->β->γ->Nat) (P:α->β->γ->Prop) (vs:α->β->γ->Tm) (Ms:α->β->γ->Mem) (ts:List Nat) (τ:List (Nat × Nat)) (a:α) (b:β) (c:γ)
  (he:TR τ tm M (vs a b c++o7 ts tm) (Ms a b c++M)) (hp:P a b c)
  (step : ∀ a b c,P a b c->(∀ a' b' c',m a' b' c'<m a b c->P a' b' c'->AH L (.lp cd::k) (vs a' b' c'++o7 ts tm) (Ms a' b' c'++M) Q)->AH L (.code cd :: .lp cd::k) (vs a b c++o7 ts tm) (Ms a b c++M) Q):AH L (.lp cd::k) tm M Q :=
 Y7 (α:=α × β × γ) (λ x=>m x.1 x.2.1 x.2.2) (λ x=>P x.1 x.2.1 x.2.2) (λ x=>vs x.1 x.2.1 x.2.2) (λ x=>Ms x.1 x.2.1 x.2.2) ts τ (a,b,c) he hp λ⟨a,b,c⟩ h ih=>step a b c h λ a' b' c' h1 h2=>ih (a',b',c') h1 h2
theorem kO {α β γ δ:Type} {L:Lib} {k:List It} {cd:C4} {tm:Tm} {M:Mem} {Q:Tm->Mem->Prop} (m:α->β->γ->δ->Nat) (P:α->β->γ->δ->Prop) (vs:α->β->γ->δ->Tm) (Ms:α->β->γ->δ->Mem) (ts:List Nat) (τ:List (Nat × Nat)) (a:α) (b:β) (c:γ) (d:δ)
  (he:TR τ tm M (vs a b c d++o7 ts tm) (Ms a b c d++M)) (hp:P a b c d)
  (step : ∀ a b c d,P a b c d->(∀ a' b' c' d',m a' b' c' d'<m a b c d->P a' b' c' d'->AH L (.lp cd::k) (vs a' b' c' d'++o7 ts tm) (Ms a' b' c' d'++M) Q)->AH L (.code cd :: .lp cd::k) (vs a b c d++o7 ts tm) (Ms a b c d++M) Q):AH L (.lp cd::k) tm M Q :=
 Y7 (α:=α × β × γ × δ) (λ x=>m x.1 x.2.1 x.2.2.1 x.2.2.2) (λ x=>P x.1 x.2.1 x.2.2.1 x.2.2.2) (λ x=>vs x.1 x.2.1 x.2.2.1 x.2.2.2) (λ x=>Ms x.1 x.2.1 x.2.2.1 x.2.2.2) ts τ (a,b,c,d) he hp λ⟨a,b,c,d⟩ h ih=>step a b c d h λ a' b' c' d' h1 h2=>ih (a',b',c',d') h1 h2
theorem Th {α β γ δ ε:Type} {L:Lib} {k:List It} {cd:C4} {tm:Tm} {M:Mem} {Q:Tm->Mem->Prop} (m:α->β->γ->δ->ε->Nat) (P:α->β->γ->δ->ε->Prop) (vs:α->β->γ->δ->ε->Tm) (Ms:α->β->γ->δ->ε->Mem) (ts:List Nat) (τ:List (Nat × Nat)) (a:α) (b:β) (c:γ) (d:δ) (e:ε)
  (he:TR τ tm M (vs a b c d e++o7 ts tm) (Ms a b c d e++M)) (hp:P a b c d e)
  (step : ∀ a b c d e,P a b c d e->(∀ a' b' c' d' e',m a' b' c' d' e'<m a b c d e->P a' b' c' d' e'->AH L (.lp cd::k) (vs a' b' c' d' e'++o7 ts tm) (Ms a' b' c' d' e'++M) Q)->AH L (.code cd :: .lp cd::k) (vs a b c d e++o7 ts tm) (Ms a b c d e++M) Q):AH L (.lp cd::k) tm M Q :=
 Y7 (α:=α × β × γ × δ × ε) (λ x=>m x.1 x.2.1 x.2.2.1 x.2.2.2.1 x.2.2.2.2) (λ x=>P x.1 x.2.1 x.2.2.1 x.2.2.2.1 x.2.2.2.2) (λ x=>vs x.1 x.2.1 x.2.2.1 x.2.2.2.1 x.2.2.2.2) (λ x=>Ms x.1 x.2.1 x.2.2.1 x.2.2.2.1 x.2.2.2.2) ts τ (a,b,c,d,e) he hp λ⟨a,b,c,d,e⟩ h ih=>step a b c d e h λ a' b' c' d' e' h1 h2=>ih (a',b',c',d',e') h1 h2
theorem Ti {α β γ δ ε ζ:Type} {L:Lib} {k:List It} {cd:C4} {tm:Tm} {M:Mem} {Q:Tm->Mem->Prop} (m:α->β->γ->δ->ε->ζ->Nat) (P:α->β->γ->δ->ε->ζ->Prop) (vs:α->β->γ->δ->ε->ζ->Tm) (Ms:α->β->γ->δ->ε->ζ->Mem) (ts:List Nat) (τ:List (Nat × Nat)) (a:α) (b:β) (c:γ) (d:δ) (e:ε) (f:ζ)
  (he:TR τ tm M (vs a b c d e f++o7 ts tm) (Ms a b c d e f++M)) (hp:P a b c d e f)
  (step : ∀ a b c d e f,P a b c d e f->(∀ a' b' c' d' e' f',m a' b' c' d' e' f'<m a b c d e f->P a' b' c' d' e' f'->AH L (.lp cd::k) (vs a' b' c' d' e' f'++o7 ts tm) (Ms a' b' c' d' e' f'++M) Q)->AH L (.code cd :: .lp cd::k) (vs a b c d e f++o7 ts tm) (Ms a b c d e f++M) Q):AH L (.lp cd::k) tm M Q :=
 Y7 (α:=α × β × γ × δ × ε × ζ) (λ x=>m x.1 x.2.1 x.2.2.1 x.2.2.2.1 x.2.2.2.2.1 x.2.2.2.2.2) (λ x=>P x.1 x.2.1 x.2.2.1 x.2.2.2.1 x.2.2.2.2.1 x.2.2.2.2.2) (λ x=>vs x.1 x.2.1 x.2.2.1 x.2.2.2.1 x.2.2.2.2.1 x.2.2.2.2.2) (λ x=>Ms x.1 x.2.1 x.2.2.1 x.2.2.2.1 x.2.2.2.2.1 x.2.2.2.2.2) ts τ (a,b,c,d,e,f) he hp λ⟨a,b,c,d,e,f⟩ h ih=>step a b c d e f h λ a' b' c' d' e' f' h1 h2=>ih (a',b',c',d',e',f') h1 h2
theorem BA {L:Lib} {Q:Tm->Mem->Prop} {c:C4} {k:List It} {tm:Tm} {M:Mem} (h:fT (me 0 tm) λ tm=>fM (ga M) λ M=>XK L Q 500 (.code c::k) tm M):AH L (.code c::k) tm M Q:=by
 rw[Z2,N8]at h;exact sF (fP h)
theorem Al3 {L:Lib} {Q:Tm->Mem->Prop} {i:Nat} {k:List It} {tm:Tm} {M:Mem} (h:XK L Q 500 (.blk i::k) tm M):AH L (.blk i::k) tm M Q:=fP h
end Go.Eng

namespace Go.Eng
variable {L:Lib}
def D6 (N:Nat):B8->Bool
 | .t n=>Nat.blt n N
 | .c _=>true
def dK (N:Nat):GO->Bool
 | .a7 x=>D6 N x
 | .o3 _ _=>true
 | .pick c a b=>D6 N c&&(D6 N a&&D6 N b)
 | .bin _ x y=>D6 N x&&D6 N y
 | .beq _ x y=>D6 N x&&D6 N y
 | .un _ x=>D6 N x
 | .conv _ x=>D6 N x
 | .box _ x=>D6 N x
 | .alloc _ _=>true
 | .build _ ps=>ps.all λ p=>D6 N p.2.2
 | .b8 _ _ ps=>ps.all (D6 N)
 | .a6 x _=>D6 N x
 | .gj x _ _ _=>D6 N x
 | .a4 _ _ x i=>D6 N x&&D6 N i
 | .idx _ _ _ x i=>D6 N x&&D6 N i
 | .ld _ _ x=>D6 N x
 | .st _ x v=>D6 N x&&D6 N v
 | .mk _ _ _ _ l c=>D6 N l&&D6 N c
 | .ae _ x lo hi=>D6 N x&&((lo.all (D6 N))&&(hi.all (D6 N)))
 | .ext x _=>D6 N x
 | .len x=>D6 N x
 | .mm _ xs=>xs.all (D6 N)
 | .app _ _ _ x y=>D6 N x&&D6 N y
 | .ia _ x y=>D6 N x&&D6 N y
 | .call _ xs=>xs.all (D6 N)
 | .c5 _ xs=>xs.all (D6 N)
 | .jo _ x=>D6 N x
 | .bn _ x=>D6 N x
 | .bad=>true
 | .jz x=>D6 N x
 | .ak x=>D6 N x
 | .gi _ _ _ x y=>D6 N x&&D6 N y
 | .gx _ _ _ x y=>D6 N x&&D6 N y
 | .iu _ _ xs=>xs.all (D6 N)
 | .l9 x xs=>D6 N x&&xs.all (D6 N)
 | .g8 _ xs=>xs.all (D6 N)
 | .m5 _ _ xs=>xs.all (D6 N)
 | .w3 _ _ xs=>xs.all (D6 N)
 | .jt _ _ x y=>D6 N x&&D6 N y
 | .gf _ _ x v=>D6 N x&&D6 N v
 | .y9 _ _ _ x y=>D6 N x&&D6 N y
def bL (N:Nat) (a:AI):Bool:=(a.dst.all λ d=>Nat.blt d N)&&((a.guard.all λ g=>Nat.blt g.1 N)&&dK N a.op)
def LI (N:Nat):C4->Bool
 | .skip=>true
 | .ops l _=>l.all (bL N)
 | .dr c ts _=>LI N c&&ts.all λ t=>Nat.blt t N
 | .scope c=>LI N c
 | .seq a b=>LI N a&&LI N b
 | .cond c a b=>D6 N c&&(LI N a&&LI N b)
 | .block _ c=>LI N c
 | .loop c=>LI N c
 | .exit _=>true
 | .ret=>true
def WG (N:Nat):It->Bool
 | .code c=>LI N c
 | .du ts _=>ts.all λ t=>Nat.blt t N
 | .blk _=>true
 | .lp c=>LI N c
structure Gh (N:Nat) (G T T':Tm):Prop where
 lo : ∀ j,j<N->c7 T' j=c7 T j
 hi : ∀ j,N<=j->c7 T' j=c7 G j
variable {N:Nat} {G:Tm}
theorem XH {a b:Nat}:Nat.blt a b=true↔a<b:=by simp [Nat.blt];omega
theorem Gh.ev {st:St} {T':Tm} {o:BT} (h:Gh N G st.tm T') {x:B8} (hx:D6 N x=true):St.ev ⟨T',o⟩ x=st.ev x:=by
 cases x with
 | t n=>exact h.lo n (XH.1 hx)
 | c v=>rfl
theorem X6 {f g:B8->AV} {xs:List B8} (h : ∀ x,D6 N x=true->f x=g x) (hx:xs.all (D6 N)=true):xs.map f=xs.map g:=by
 apply List.map_congr_left;intro x hm;exact h x (List.all_eq_true.1 hx x hm)
theorem Ym {C:Cl} {b7:List Nat} {ρ ρ':B8->AV} {own:BT} (h : ∀ x,D6 N x=true->ρ' x=ρ x) : ∀ (op:GO),dK N op=true->c4 C b7 ρ' own op=c4 C b7 ρ own op:=by
 intro op e6;cases op;case build zero ps =>
  have:(ps.map λ p=>(p.1,p.2.1,ρ' p.2.2))=ps.map λ p=>(p.1,p.2.1,ρ p.2.2):=by
   apply List.map_congr_left;intro p hm;rw[h _ (List.all_eq_true.1 e6 p hm)]
  simp only[c4,this]
 case b8 s a5 ps =>
  have:ps.mapM (λ x=>cellsOf (ρ' x))=ps.mapM (λ x=>cellsOf (ρ x)):=by
   have jy:ps.all (D6 N)=true:=e6;clear e6;induction ps with
   | nil=>rfl
   | cons p r ih =>
    simp only[List.all_cons,Bool.and_eq_true]at jy;simp only[List.mapM_cons,h _ jy.1,ih jy.2]
  simp only[c4,this]
 case mm m xs=>simp only[c4,X6 h e6]
 case call f xs=>simp only[c4,X6 h e6]
 case c5 f xs=>simp only[c4,X6 h e6]
 case iu p f xs =>
  have:xs.mapM (λ x=>KD (ρ' x))=xs.mapM (λ x=>KD (ρ x)):=by
   have jy:xs.all (D6 N)=true:=e6;clear e6;induction xs with
   | nil=>rfl
   | cons p r ih =>
    simp only[List.all_cons,Bool.and_eq_true]at jy;simp only[List.mapM_cons,h _ jy.1,ih jy.2]
  simp only[c4,this]
 case g8 f xs=>simp only[c4,X6 h e6]
 case m5 s f xs=>simp only[c4,X6 h e6]
 case w3 s f xs=>simp only[c4,X6 h e6]
 case l9 x xs =>
  simp only[dK,Bool.and_eq_true]at e6;simp only[c4,X6 h e6.2,h _ e6.1]
 case ae a5 x lo hi =>
  simp only[dK,Bool.and_eq_true]at e6;obtain ⟨h1,h2,h3⟩:=e6;cases lo<;>cases hi<;>simp only[Option.all_some,Option.all_none]at h2 h3<;>simp only[c4,h _ h1,h _,h2,h3]
 all_goals (simp only[dK,Bool.and_eq_true]at e6;simp only[c4,h _,e6])
theorem Gh.dst {T T':Tm} (h:Gh N G T T') {d:Nat} (hd:d<N) (v:AV):Gh N G (df T d v) (df T' d v):=by
 constructor
 ·intro j hj
  rw[aP,aP,h.lo j hj]
 ·intro j hj
  rw[aP,h.hi j hj,if_neg (by omega)]
theorem Gh.ib {T T':Tm} {o:BT} (h:Gh N G T T') {d:Option Nat} (hd:(d.all λ d=>Nat.blt d N)=true) (v:AV):((⟨T',o⟩:St).dst d v).own=((⟨T,o⟩:St).dst d v).own/\Gh N G ((⟨T,o⟩:St).dst d v).tm ((⟨T',o⟩:St).dst d v).tm:=by
 cases d with
 | none=>exact ⟨rfl,h⟩
 | some d=>exact ⟨rfl,h.dst (XH.1 hd) v⟩
theorem Alo {C:Cl} {a:AI} (ha:bL N a=true) {T T':Tm} {o:BT} (h:Gh N G T T') {s':St} (hs:FO C a ⟨T',o⟩=some s') : ∃ s,FO C a ⟨T,o⟩=some s/\s'.own=s.own/\Gh N G s.tm s'.tm:=by
 simp only[bL,Bool.and_eq_true]at ha;obtain ⟨h1,h2,h3⟩:=ha;have hg:H0 ⟨T',o⟩ a.guard=H0 ⟨T,o⟩ a.guard:=by
  cases hgg:a.guard with
  | none=>rfl
  | some g =>
   rw[hgg]at h2;simp only[H0,h.lo _ (XH.1 h2)]
 have he:=Ym (C:=C) (b7:=a.b7) (own:=o) (ρ:=St.ev ⟨T,o⟩) (ρ':=St.ev ⟨T',o⟩) (λ x hx=>Gh.ev (st:=⟨T,o⟩) h hx) a.op h3;unfold FO at hs ⊢;rw[hg,he]at hs;cases sn:H0 ⟨T,o⟩ a.guard with
 | none=>rw[sn]at hs;cases hs
 | some b =>
  rw[sn]at hs;cases b with
  | false =>
   simp only[Option.some.injEq]at hs ⊢;subst hs;exact ⟨_,rfl,h.ib h1 _⟩
  | true =>
   simp only at hs ⊢;cases nc:c4 C a.b7 (St.ev ⟨T,o⟩) o a.op with
   | none=>rw[nc]at hs;cases hs
   | some e =>
    rw[nc]at hs;simp only[Option.map_some,Option.some.injEq]at hs ⊢;subst hs;refine ⟨_,rfl,?_⟩;cases e with
    | val v=>exact h.ib h1 v
    | new s b v=>exact ⟨rfl,(h.ib (o:=o) h1 _).2⟩
    | mu s b v=>exact ⟨rfl,(h.ib (o:=o) h1 _).2⟩
    | w8 v o'=>exact ⟨rfl,(h.ib (o:=o) h1 _).2⟩
    | l8 s x=>exact ⟨rfl,(h.ib (o:=o) h1 _).2⟩
    | js s x v=>exact ⟨rfl,(h.ib (o:=o) h1 _).2⟩
theorem My {C:Cl} : ∀ {l:List AI},l.all (bL N)=true -> ∀ {T T':Tm} {o:BT},Gh N G T T' -> ∀ {s':St},FS C l ⟨T',o⟩=some s' -> ∃ s,FS C l ⟨T,o⟩=some s/\s'.own=s.own/\Gh N G s.tm s'.tm
 | [],_,T,T',o,h,s',hs=>by
  simp only[FS,Option.some.injEq]at hs;subst hs;exact ⟨_,rfl,rfl,h⟩
 | a::l,ha,T,T',o,h,s',hs=>by
  simp only[List.all_cons,Bool.and_eq_true]at ha;simp only[FS]at hs;cases h1:FO C a ⟨T',o⟩ with
  | none=>rw[h1]at hs;cases hs
  | some s1 =>
   rw[h1]at hs;obtain ⟨s2,e1,e2,e3⟩:=Alo ha.1 h h1;obtain ⟨T1,o1⟩:=s1;obtain ⟨T2,o2⟩:=s2;simp only at e2 e3;subst e2;obtain ⟨s3,f1,f2,f3⟩:=My ha.2 e3 hs;exact ⟨s3,by simp only[FS,e1,f1],f2,f3⟩
theorem cU {id:Nat} : ∀ {k k':List It},k.all (WG N)=true->GM id k=some k'->k'.all (WG N)=true
 | [],_,_,h=>by simp [GM]at h
 | it::k,k',hk,h=>by
  simp only[List.all_cons,Bool.and_eq_true]at hk;cases it with
  | blk i =>
   simp only[GM]at h;split at h
   ·cases h;exact hk.2
   ·exact cU hk.2 h
  | code c=>simp only[GM]at h;exact cU hk.2 h
  | du a b=>simp only[GM]at h;exact cU hk.2 h
  | lp c=>simp only[GM]at h;exact cU hk.2 h
theorem LY {C:Cl} : ∀ (n:Nat) {k:List It},k.all (WG N)=true -> ∀ {T T':Tm} {o:BT},Gh N G T T' -> ∀ {s':St},run C n k ⟨T',o⟩=some s' -> ∃ s,run C n k ⟨T,o⟩=some s/\s'.own=s.own/\Gh N G s.tm s'.tm
 | 0,k,_,T,T',o,_,s',hs=>by simp [run]at hs
 | n+1,[],_,T,T',o,h,s',hs=>by
  simp only[run,Option.some.injEq]at hs ⊢;subst hs;exact ⟨_,rfl,rfl,h⟩
 | n+1,.blk _::k,hk,T,T',o,h,s',hs=>by
  simp only[List.all_cons,Bool.and_eq_true]at hk;simp only[run]at hs ⊢;exact LY n hk.2 h hs
 | n+1,.du ts ss::k,hk,T,T',o,h,s',hs=>by
  simp only[List.all_cons,Bool.and_eq_true]at hk;simp only[run]at hs ⊢;refine LY n hk.2 ⟨λ j hj => ?_,λ j hj => ?_⟩ hs
  ·rw[aO,aO,h.lo j hj]
  ·rw[aO,h.hi j hj,if_neg]
   intro hc;have:=List.all_eq_true.1 hk.1 j (by simpa using hc);have:=XH.1 this;omega
 | n+1,.lp c::k,hk,T,T',o,h,s',hs=>by
  simp only[run]at hs ⊢;have bz:=hk;simp only[List.all_cons,Bool.and_eq_true]at hk;exact LY n (by simp only[List.all_cons,Bool.and_eq_true];exact ⟨hk.1,hk.1,hk.2⟩) h hs
 | n+1,.code c::k,hk,T,T',o,h,s',hs=>by
  simp only[List.all_cons,Bool.and_eq_true]at hk;obtain ⟨hc,hk⟩:=hk;cases c with
  | skip=>simp only[run]at hs ⊢;exact LY n hk h hs
  | ops l d =>
   simp only[run]at hs ⊢;cases h1:FS C l ⟨T',o⟩ with
   | none=>rw[h1]at hs;cases hs
   | some s1 =>
    rw[h1]at hs;obtain ⟨s2,e1,e2,e3⟩:=My (show l.all (bL N)=true from hc) h h1;obtain ⟨T1,o1⟩:=s1;obtain ⟨T2,o2⟩:=s2;simp only at e2 e3;subst e2;rw[e1];exact LY n hk e3 hs
  | dr c ts ss =>
   simp only[run]at hs ⊢;simp only[WG,LI,Bool.and_eq_true]at hc;exact LY n (by simp only[List.all_cons,Bool.and_eq_true];exact ⟨hc.1,hc.2,hk⟩) h hs
  | scope c =>
   simp only[run]at hs ⊢;exact LY n (by simp only[List.all_cons,Bool.and_eq_true];exact ⟨hc,hk⟩) h hs
  | seq a b =>
   simp only[run]at hs ⊢;simp only[WG,LI,Bool.and_eq_true]at hc;exact LY n (by simp only[List.all_cons,Bool.and_eq_true];exact ⟨hc.1,hc.2,hk⟩) h hs
  | cond x a b =>
   simp only[WG,LI,Bool.and_eq_true]at hc;simp only[run,Gh.ev (st:=⟨T,o⟩) h hc.1]at hs ⊢;cases hx:St.ev ⟨T,o⟩ x<;>rw[hx]at hs<;>try (simp at hs;done);rename_i q;cases q
   ·exact LY n (by simp only[List.all_cons,Bool.and_eq_true];exact ⟨hc.2.2,hk⟩) h hs
   ·exact LY n (by simp only[List.all_cons,Bool.and_eq_true];exact ⟨hc.2.1,hk⟩) h hs
  | block id c =>
   simp only[run]at hs ⊢;exact LY n (by simp only[List.all_cons,Bool.and_eq_true];exact ⟨hc,rfl,hk⟩) h hs
  | loop c =>
   simp only[run]at hs ⊢;exact LY n (by simp only[List.all_cons,Bool.and_eq_true];exact ⟨hc,hc,hk⟩) h hs
  | exit id =>
   simp only[run]at hs ⊢;cases he:GM id k with
   | none=>rw[he]at hs;cases hs
   | some k' =>
    rw[he]at hs;exact LY n (cU hk he) h hs
  | ret =>
   simp only[run,Option.some.injEq]at hs ⊢;subst hs;exact ⟨_,rfl,rfl,h⟩
def JJ (N:Nat):Tm->Tm
 | []=>[]
 | (i,v)::r=>(N+i,v)::JJ N r
def gh (N:Nat):Tm->Tm
 | []=>[]
 | (i,v)::r=>bif Nat.ble N i then (Nat.sub i N,v)::gh N r else gh N r
theorem rP (N j:Nat) : ∀ T:Tm,c7 (JJ N T) (N+j)=c7 T j
 | []=>rfl
 | (i,v)::r=>by
  have ih:=rP N j r;simp only[JJ,c7,ih];by_cases h:j=i
  ·simp [h]
  ·rw[if_neg h,if_neg (by omega)]
theorem rS {N j:Nat} (hj:j<N) : ∀ T:Tm,c7 (JJ N T) j = .any
 | []=>rfl
 | (i,v)::r=>by
  simp only[JJ,c7,rS hj r];rw[if_neg (by omega)]
theorem rN (N j:Nat) : ∀ T:Tm,c7 (gh N T) j=c7 T (N+j)
 | []=>rfl
 | (i,v)::r=>by
  have ih:=rN N j r;simp only[gh];cases h:Nat.ble N i
  ·have h1 : ¬ N<=i:=λ e=>by rw[Nat.ble_eq_true_of_le e]at h;cases h
   simp only[cond,c7,ih];rw[if_neg (by omega)]
  ·have h1:=Nat.le_of_ble_eq_true h
   simp only[cond,c7,ih];by_cases h2:j=i-N
   ·rw[if_pos (show j=Nat.sub i N from h2),if_pos (by omega)]
   ·rw[if_neg (show ¬ j=Nat.sub i N from h2),if_neg (by omega)]
def PM (f:AV->AV):Tm->Tm
 | []=>[]
 | (i,v)::r=>(i,f v)::PM f r
theorem NN {f:AV->AV} (hf:f .any = .any) (j:Nat) : ∀ T:Tm,c7 (PM f T) j=f (c7 T j)
 | []=>hf.symm
 | (i,v)::r=>by
  simp only[PM,c7,NN hf j r];by_cases h:j=i<;>simp [h]
theorem oF (f:AV->AV) : ∀ (i:Nat) (vs:List AV),EU i (vs.map f)=PM f (EU i vs)
 | _,[]=>rfl
 | i,v::r=>by simp only[List.map_cons,EU,PM,oF f (i+1) r]
theorem eE (j:Nat) (b:Tm) : ∀ a:Tm,((a.any λ p=>p.1 == j)=true/\c7 (a++b) j=c7 a j)\/((a.any λ p=>p.1 == j)=false/\c7 (a++b) j=c7 b j)
 | []=>Or.inr ⟨rfl,rfl⟩
 | (i,v)::r=>by
  by_cases h:j=i
  ·subst h
   exact Or.inl (by simp [c7])
  ·have h' : ¬ i=j:=λ e=>h e.symm
   rcases eE j b r with ⟨h1,h2⟩|⟨h1,h2⟩
   ·exact Or.inl ⟨by rw[List.any_cons,h1,Bool.or_true],by simp only[List.cons_append,c7,if_neg h,h2]⟩
   ·exact Or.inr ⟨by rw[List.any_cons,h1,Bool.or_false];simpa using h',by simp only[List.cons_append,c7,if_neg h,h2]⟩
theorem oE (j:Nat) : ∀ (i:Nat) (vs:List AV),((EU i vs).any λ p=>p.1 == j)=true->j<i+vs.length
 | _,[],h=>by simp [EU]at h
 | i,v::r,h=>by
  simp only[EU,List.any_cons,Bool.or_eq_true,beq_iff_eq]at h;rcases h with h|h
  ·simp;omega
  ·have:=oE j (i+1) r h
   simp;omega
theorem rO (j:Nat) : ∀ (i:Nat) (vs:List AV),((EU i vs).any λ p=>p.1 == j)=false->c7 (EU i vs) j = .any
 | _,[],_=>rfl
 | i,v::r,h=>by
  simp only[EU,List.any_cons,Bool.or_eq_false_iff,beq_eq_false_iff_ne]at h;simp only[EU,c7];rw[if_neg λ e=>h.1 e.symm,rO j (i+1) r h.2]
theorem OR (σ:IJ):DB σ .any = .any:=rfl
def WO (tm:Tm):List MV->Option (List AV)
 | []=>some []
 | .tmp t::r=>match MK (tg tm t),WO tm r with
  | some v,some vs=>some (v::vs)
  | _,_=>none
 | .cell _ _ _::_=>none
def dS (N:Nat):List MV->Bool
 | []=>true
 | .tmp t::r=>Nat.blt t N&&dS N r
 | .cell _ _ _::_=>false
def tF (N:Nat) (fn:AFn) (tm:Tm) (K:AV->Mem->Prop) (t9:Tm) (M':Mem):Prop:=gh N t9=tm /\ ∃ rs,WO t9 fn.res=some rs/\K (KE rs) M'
theorem AkP {σ:IJ} {v u:AV} (h:MK v=some u):u=v/\DB σ v=DQ σ v/\MK (DB σ v)=some (DB σ v):=by
 cases v<;>simp [MK]at h<;>subst h<;>exact ⟨rfl,rfl,rfl⟩
theorem pV {σ:IJ} {t9:Tm} {M:Mem} {s s':St} (hr:RX σ t9 M s') (gm : ∀ j,j<N->c7 s'.tm j=c7 s.tm j) : ∀ {res:List MV} {rs:List AV},dS N res=true->WO t9 res=some rs->res.mapM (G5 s)=some (rs.map (DQ σ)) /\ ∀ v∈rs,DB σ v=DQ σ v
 | [],rs,_,h=>by
  simp only[WO,Option.some.injEq]at h;subst h;exact ⟨rfl,by simp⟩
 | .cell _ _ _::_,_,_,h=>by simp [WO]at h
 | .tmp t::r,rs,hl,h=>by
  simp only[dS,Bool.and_eq_true]at hl;simp only[WO]at h;cases h1:MK (tg t9 t) with
  | none=>rw[h1]at h;simp at h
  | some v =>
   cases h2:WO t9 r with
   | none=>rw[h1,h2]at h;simp at h
   | some vs =>
    rw[h1,h2]at h;simp only[Option.some.injEq]at h;subst h;obtain ⟨i1,i2⟩:=pV hr gm hl.2 h2;obtain ⟨rfl,j2,j3⟩:=AkP (σ:=σ) h1;have:c7 s.tm t=DB σ (tg t9 t):=by
     rcases hr.tm t with e|e
     ·rw[e]at h1;cases h1
     ·rw[<-gm t (XH.1 hl.1),e]
    refine ⟨?_,?_⟩
    ·rw[j2]at j3 this
     simp only[List.mapM_cons,G5,this,j3,i1,List.map_cons];rfl
    ·intro v hv
     simp only[List.mem_cons]at hv;rcases hv with rfl|hv
     ·exact j2
     ·exact i2 v hv
theorem Ko {σ:IJ} {rs:List AV} (h : ∀ v∈rs,DB σ v=DQ σ v):KE (rs.map (DQ σ))=DB σ (KE rs):=by
 match rs,h with
 | [],_=>rfl
 | [v],h=>exact (h v (by simp)).symm
 | _::_::_,_=>rfl
theorem HI {f:Nat} {fn:AFn} {vs:List AV} {tm:Tm} {M:Mem} {K:AV->Mem->Prop} (N:Nat) (hL:L f=some fn) (hp:Nat.beq vs.length fn.s8=true) (hN:(Nat.ble fn.s8 N&&(LI N fn.body&&dS N fn.res))=true)
  (h:AH L [.code fn.body] (EU 0 vs++JJ N tm) M (tF N fn tm K)):CW L f vs tm M K:=by
 intro σ own hs;simp only[Bool.and_eq_true]at hN;obtain ⟨n1,n2,n3⟩:=hN;have n1:=Nat.le_of_ble_eq_true n1;have hp:vs.length=fn.s8:=Nat.eq_of_beq_eq_true hp;have Gz:RX σ (EU 0 vs++JJ N tm) M ⟨PM (DB σ) (EU 0 vs++JJ N tm),own⟩:=⟨λ j=>Or.inr (by rw[NM];exact NN (OR σ) j _),hs⟩;obtain ⟨n,c,s',hr,σ',t9,M',hR,hg,rs,hrs,hk⟩:=h σ _ Gz;have Fz:Gh N (PM (DB σ) (JJ N tm)) (EU 0 (vs.map (DB σ))) (PM (DB σ) (EU 0 vs++JJ N tm)):=by
  constructor
  ·intro j hj
   rw[oF,NN (OR σ),NN (OR σ)];rcases eE j (JJ N tm) (EU 0 vs) with ⟨_,e⟩|⟨hn,e⟩
   ·rw[e]
   ·rw[e,rS hj,rO j 0 vs hn]
  ·intro j hj
   rw[NN (OR σ),NN (OR σ)];rcases eE j (JJ N tm) (EU 0 vs) with ⟨hn,e⟩|⟨_,e⟩
   ·have:=oE j 0 vs hn
    omega
   ·rw[e]
 obtain ⟨s,r1,r2,r3⟩:=LY n (by simp [WG,n2]) Fz hr;obtain ⟨i1,i2⟩:=pV (s:=s) hR r3.lo n3 hrs;refine ⟨KE rs,s.own,σ',M',JN.intro hL (by simpa using hp) ⟨n,c,s,r1,?_,rfl⟩,?_,?_,hk⟩
 ·rw[i1,Option.map_some,Ko i2]
 ·rw[<-r2];exact hR.sat
 ·intro j
  have e1:tg tm j=tg t9 (N+j):=by rw[NM,NM,<-hg,rN]
  rcases hR.tm (N+j) with e|e
  ·rw[e1,e];rfl
  ·rw[e1,<-e,r3.hi (N+j) (by omega),NN (OR σ),rP,<-NM,e1]
theorem ZJ {α:Type} {enc:α->List AV} {l:List α} {i:Nat} {vs:List AV} {K:List (List AV)->Prop} (n:Nat) (e:α) (hn:i=n) (he:vs=enc e) (hz : ∀ x,(enc x).length=vs.length) (hi:n<l.length) (h:K ((l.set n e).map enc)):CU (l.map enc) i 0 vs K:=by
 subst hn;exact Vs e he hz hi h
theorem JM {x:Int} {len:Nat} {K:Nat->Nat->Prop} (h:Nat) (hx:x=h) (hl:h<=len) (hk:K 0 h):DR none (some x) len K:=⟨0,h,rfl,⟨by omega,by omega,by omega⟩,by omega,hk⟩
theorem Rx {x:Int} {len:Nat} {K:Nat->Nat->Prop} (a:Nat) (hx:x=a) (hl:a<=len) (hk:K a len):DR (some x) none len K:=⟨a,len,⟨by omega,by omega⟩,rfl,by omega,hk⟩
end Go.Eng

namespace Go.Eng
section
variable {K:AV->Prop} {a b:Nat} {k':IntKind}
theorem wrap_u32 (n:Nat):IntKind.u32.wrap (n:Int)=((n%4294967296:Nat):Int):=by rw[IntKind.wrap_u32];omega
theorem Al0 (n:Nat):IntKind.u64.wrap (n:Int)=((n%18446744073709551616:Nat):Int):=by
 simp [IntKind.wrap,IntKind.bits,IntKind.signed]
theorem I9 (h:a+b<=18446744073709551615) (hk:K (.int .u64 ((a+b:Nat):Int))):BD .add .u64 (a:Int) .u64 (b:Int) K :=
 ⟨_,by simp only[F4,if_true];rw[IntWalk.u64_in _ (by omega)],by simpa using hk⟩
theorem L4 (h:b<=a) (h2:a<=18446744073709551615) (hk:K (.int .u64 ((a-b:Nat):Int))):BD .sub .u64 (a:Int) .u64 (b:Int) K :=
 ⟨_,by simp only[F4,if_true];rw[IntWalk.u64_in _ (by omega)],by rw[show (a:Int)-b=((a-b:Nat):Int) by omega];exact hk⟩
theorem fE (h:b<=18446744073709551616) (hk:K (.int .u64 ((HC a b:Nat):Int))):BD .sub .u64 (a:Int) .u64 (b:Int) K :=
 eR (v := .int .u64 (IntKind.u64.wrap ((a:Int)-b))) (by simp only[F4,if_true]) (by
  have e:IntKind.u64.wrap ((a:Int)-b)=((HC a b:Nat):Int):=by
   rw[Y4];simp only[IntKind.wrap,IntKind.bits,IntKind.signed];simp;omega
  rw[e];exact hk)
theorem UN (h:a*b<=18446744073709551615) (hk:K (.int .u64 ((a*b:Nat):Int))):BD .mul .u64 (a:Int) .u64 (b:Int) K :=
 ⟨_,by simp only[F4,if_true];rw[<-Int.natCast_mul,IntWalk.u64_in _ (by omega)],hk⟩
theorem fA (h:0<b) (h2:a<=18446744073709551615) (hk:K (.int .u64 ((a/b:Nat):Int))):BD .quo .u64 (a:Int) .u64 (b:Int) K:=by
 refine ⟨_,by simp only[F4];rw[if_pos ⟨trivial,by omega⟩],?_⟩;rw[IntWalk.u64_quo _ _ ⟨by omega,by omega,by omega⟩,<-Int.natCast_ediv];exact hk
theorem bC (h:0<b) (hk:K (.int .u64 ((a%b:Nat):Int))):BD .rem .u64 (a:Int) .u64 (b:Int) K:=by
 refine ⟨_,by simp only[F4];rw[if_pos ⟨trivial,by omega⟩],?_⟩;rw[IntWalk.rem_in _ _ (by omega),<-Int.natCast_emod];exact hk
theorem Ak9 {k:IntKind} {n:Nat} (hn:n<=k.bits):F4 .shl k (a:Int) k' (n:Int)=some (.int k (k.wrap ((a*2^n:Nat):Int))):=by
 simp only[F4];rw[if_neg (by omega),Int.toNat_natCast,Nat.min_eq_left hn];simp
theorem Alb {k:IntKind} {n:Nat} (hn:n<=k.bits):F4 .shr k (a:Int) k' (n:Int)=some (.int k ((a/2^n:Nat):Int)):=by
 simp only[F4];rw[if_neg (by omega),Int.toNat_natCast,Nat.min_eq_left hn,Int.fdiv_eq_ediv_of_nonneg _ (Int.le_of_lt (Int.pow_pos (by omega)))];simp
theorem kV {k:IntKind} {n:Nat} (hn:n<=k.bits) (hk:K (.int k (k.wrap ((a*2^n:Nat):Int)))):BD .shl k (a:Int) k' (n:Int) K:=⟨_,Ak9 hn,hk⟩
theorem UQ {k:IntKind} {n:Nat} (hn:n<=k.bits) (hk:K (.int k ((a/2^n:Nat):Int))):BD .shr k (a:Int) k' (n:Int) K:=⟨_,Alb hn,hk⟩
theorem TS (h:a<=4294967295) (hk:K (.int .u64 ((a*4294967296:Nat):Int))):BD .shl .u64 (a:Int) k' 32 K:=by
 refine kV (n:=32) (by decide) ?_;rw[Al0,show a*2^32%18446744073709551616=a*4294967296 by omega];exact hk
theorem IE (hk:K (.int .u64 ((a/4294967296:Nat):Int))):BD .shr .u64 (a:Int) k' 32 K:=UQ (n:=32) (by decide) hk
theorem fD (hk:K (.int .u64 ((a/9223372036854775808:Nat):Int))):BD .shr .u64 (a:Int) k' 63 K:=UQ (n:=63) (by decide) hk
theorem Vd (hk:K (.int .u64 ((a/4:Nat):Int))):BD .shr .u64 (a:Int) k' 2 K:=UQ (n:=2) (by decide) hk
theorem Vc (hk:K (.int .u32 ((a/65536:Nat):Int))):BD .shr .u32 (a:Int) k' 16 K:=UQ (n:=16) (by decide) hk
theorem Ve (hk:K (.int .u32 ((a/256:Nat):Int))):BD .shr .u32 (a:Int) k' 8 K:=UQ (n:=8) (by decide) hk
theorem Vb (hk:K (.int .u32 ((a/2:Nat):Int))):BD .shr .u32 (a:Int) k' 1 K:=UQ (n:=1) (by decide) hk
theorem pD (w n:Nat):(BitVec.ofInt w (n:Int)).toNat=n%2^w:=by rw[BitVec.toNat_ofInt];omega
theorem Akw {n x y:Nat} (hx:x%2^n=0) (hy:y<2^n):x ||| y=x+y:=by
 have e:x=2^n*(x/2^n):=by have:=Nat.mod_add_div x (2^n);omega
 rw[e,<-Nat.two_pow_add_eq_or_of_lt hy]
theorem kU {k:IntKind} (n:Nat) (hx:a%2^n=0) (hy:b<2^n) (h:a+b<2^k.bits) (hw:k.wrap ((a+b:Nat):Int)=((a+b:Nat):Int)) (hk:K (.int k ((a+b:Nat):Int))):BD .or k (a:Int) k (b:Int) K:=by
 refine eR (v := .int k (k.wrap (BitVec.ofInt k.bits (a:Int) ||| BitVec.ofInt k.bits (b:Int)).toNat)) (by simp only[F4,if_true]) ?_;rw[BitVec.toNat_or,pD,pD,Nat.mod_eq_of_lt (by omega),Nat.mod_eq_of_lt (by omega),Akw hx hy,hw];exact hk
theorem UP (h:a%4294967296=0/\b<4294967296/\a+b<=18446744073709551615) (hk:K (.int .u64 ((a+b:Nat):Int))):BD .or .u64 (a:Int) .u64 (b:Int) K :=
 kU 32 h.1 h.2.1 (show a+b<18446744073709551616 by omega) (IntWalk.u64_in _ (by omega)) hk
theorem sZ (h:a<=18446744073709551615) (hk:K (.int .u64 ((a%4294967296:Nat):Int))):BD .and .u64 (a:Int) .u64 4294967295 K:=by
 refine eR (v := .int .u64 (IntKind.u64.wrap (BitVec.ofInt IntKind.u64.bits (a:Int) &&& BitVec.ofInt IntKind.u64.bits 4294967295).toNat)) (by simp only[F4,if_true]) ?_;rw[BitVec.toNat_and,pD,show (BitVec.ofInt IntKind.u64.bits 4294967295).toNat=2^32-1 by decide,Nat.and_two_pow_sub_one_eq_mod,show a%2^IntKind.u64.bits=a from Nat.mod_eq_of_lt (show a<18446744073709551616 by omega),IntWalk.u64_in _ (by omega)];exact hk
theorem sY (hk:K (.int .u32 (((a+b)%4294967296:Nat):Int))):BD .add .u32 (a:Int) .u32 (b:Int) K :=
 eR (v := .int .u32 (IntKind.u32.wrap ((a:Int)+b))) (by simp only[F4,if_true]) (by rw[<-Int.natCast_add,wrap_u32];exact hk)
end
section
variable {K:Int->Prop} {n:Nat}
theorem sP (h:n<=18446744073709551615) (hk:K (n:Int)):CF .u64 (n:Int) K:=aU (IntWalk.u64_in _ (by omega)) hk
theorem GZ (h:n<=4294967295) (hk:K (n:Int)):CF .u32 (n:Int) K:=aU (IntWalk.u32_in _ (by omega)) hk
theorem IU (hk:K ((n%4294967296:Nat):Int)):CF .u32 (n:Int) K:=by unfold CF;rw[wrap_u32];exact hk
theorem Sb (h:n<=255) (hk:K (n:Int)):CF .u8 (n:Int) K:=aU (IntWalk.u8_in _ (by omega)) hk
end
theorem fO {tb:List Nat} {n v:Nat} {K:Nat->Prop} (hv:tb[n]? = some v) (hk:K v):XB tb (n:Int) K:=⟨by omega,v,by rw[Int.toNat_natCast];exact hv,hk⟩
abbrev BZ (n:Nat):List AV:=[.int .u32 (n:Int)]
theorem E5 (l:List Nat):IR (l.map BZ):=bV (λ_=>by simp [FG,CT]) l
section
variable {l:List Nat} {K:List AV->Prop}
theorem fH {n:Nat} (hD:CP l) (hn:n<l.length) (h : ∀ e,l[n]? = some e->e<4294967296->K (BZ e)):CG (l.map BZ) (n:Int) 1 K :=
 Vn hn (λ_=>rfl) λ e he=>h e he (hD.at he)
theorem V2 {a:Int} (hD:CP l) (hn:0<=a/\a<l.length) (h : ∀ e,l[a.toNat]? = some e->e<4294967296->K (BZ e)):CG (l.map BZ) a 1 K :=
 kX hn (λ_=>rfl) λ e he=>h e he (hD.at he)
theorem sX {i:Nat} (hD:CP l) (hi:i<l.length) (h : ∀ e,l[i]? = some e->e<4294967296->K (BZ e)):CR (l.map BZ) (0+((i:Int)).toNat) 0 1 K :=
 HZ (f:=BZ) hi (λ_=>rfl) λ e he=>h e he (hD.at he)
theorem W9 {i:Int} (hD:CP l) (hi:0<=i/\i<l.length) (h : ∀ e,l[i.toNat]? = some e->e<4294967296->K (BZ e)):CR (l.map BZ) (0+i.toNat) 0 1 K :=
 aZ (f:=BZ) hi (λ_=>rfl) λ e he=>h e he (hD.at he)
theorem Amb {i:Nat} (n:Nat) (hn:i=n) (hD:CP l) (hi:n<l.length) (h : ∀ e,l[n]? = some e->e<4294967296->K (BZ e)):CR (l.map BZ) i 0 1 K:=by
 subst hn;exact Va BZ hi (λ_=>rfl) λ e he=>h e he (hD.at he)
theorem IA {i v:Nat} {KK:List (List AV)->Prop} (hi:i<l.length) (h:KK ((l.set i v).map BZ)):CU (l.map BZ) (0+((i:Int)).toNat) 0 [.int .u32 (v:Int)] KK:=G8 (enc:=BZ) v rfl (λ_=>rfl) hi h
theorem fK {i v:Nat} {KK:List (List AV)->Prop} (n:Nat) (hn:i=n) (hi:n<l.length) (h:KK ((l.set n v).map BZ)):CU (l.map BZ) i 0 [.int .u32 (v:Int)] KK:=ZJ (enc:=BZ) n v hn rfl (λ_=>rfl) hi h
end
end Go.Eng
namespace Go.Eng
variable {L:Lib}
theorem Ev.xE {f:Nat} {fn:AFn} {vs:List AV} {P:AV->Prop} (hL:L f=some fn) (hp:Nat.beq vs.length fn.s8=true) (hd:N5 vs=true) (h:AH L [.code fn.body] (EU 0 vs) [] (λ tm M => ∃ r,V3 fn r tm M/\P r)) (hs:fn.gu=false:=by rfl) : ∃ r,Ev L f vs r/\P r:=by
 obtain ⟨n,c,e5,hr,σ,tm,M,hR,r,hq,hP⟩:=h (λ_ _=>(0,0)) ⟨EU 0 vs,BT.emp⟩ ⟨λ j=>Or.inr (by rw[NM];exact cA hd j),⟨(λ_ _ _ e=>by cases e),(λ_ _ _ e=>by simp [a8,b9]at e),(λ_ _ _ e=>by simp [a8,b9]at e),(λ_ _ _ _ _ _ e=>by simp [a8,b9]at e),(λ_ _ _ e=>by simp [a8,b9]at e)⟩⟩;exact ⟨r,Ev.fwd hL (DI.1 hp) ⟨n,c,e5,hr,tH hR hq⟩ hs,hP⟩
def aB:GO->Bool
 | .o3 .. | .box .. | .alloc .. | .b8 .. | .st .. | .mk .. | .app .. | .ia .. | .c5 .. | .l9 .. | .gf .. | .m5 .. | .y9 .. | .gi .. | .gx .. | .w3 .. => false
 | _=>true
def LJ:C4->Bool
 | .skip=>true
 | .ops l _=>l.all λ a=>aB a.op
 | .dr c _ ss=>LJ c&&ss.isEmpty
 | .scope c=>LJ c
 | .seq a b=>LJ a&&LJ b
 | .cond _ a b=>LJ a&&LJ b
 | .block _ c=>LJ c
 | .loop c=>LJ c
 | .exit _=>true
 | .ret=>true
def U9:It->Bool
 | .code c=>LJ c
 | .du _ ss=>ss.isEmpty
 | .blk _=>true
 | .lp c=>LJ c
theorem Yp {C:Cl} {b7:List Nat} {ρ:B8->AV} {own:BT} {op:GO} {E:EB} (ho:aB op=true) (h:c4 C b7 ρ own op=some E) : ∃ v,E = .val v:=by
 cases op<;>first|(simp [aB]at ho;done)|skip
 all_goals simp only[c4]at h
 all_goals
  first
   | (simp only[Option.some.injEq]at h;exact ⟨_,h.symm⟩)
   | (simp only[Option.map_eq_some_iff]at h;obtain ⟨_,_,rfl⟩:=h;exact ⟨_,rfl⟩)
   | skip
 all_goals (repeat' split at h)
 all_goals
  first
   | (cases h;done)
   | (simp only[Option.some.injEq]at h;exact ⟨_,h.symm⟩)
   | (simp only[Option.map_eq_some_iff]at h;obtain ⟨_,_,rfl⟩:=h;exact ⟨_,rfl⟩)
theorem Alq {C:Cl} {a:AI} (ho:aB a.op=true) {s s':St} (h:FO C a s=some s'):s'.own=s.own:=by
 unfold FO at h;split at h
 ·cases he:c4 C a.b7 s.ev s.own a.op with
  | none=>rw[he]at h;cases h
  | some E =>
   rw[he]at h;obtain ⟨v,rfl⟩:=Yp ho he;simp only[Option.map_some,Option.some.injEq]at h;subst h;simp only[St.app];cases a.dst<;>rfl
 ·simp only[Option.some.injEq]at h
  subst h;cases a.dst<;>rfl
 ·cases h
theorem Mz {C:Cl} : ∀ {l:List AI},(l.all λ a=>aB a.op)=true -> ∀ {s s':St},FS C l s=some s'->s'.own=s.own
 | [],_,s,s',h=>by simp only[FS,Option.some.injEq]at h;rw[h]
 | a::l,ho,s,s',h=>by
  simp only[List.all_cons,Bool.and_eq_true]at ho;simp only[FS]at h;cases h1:FO C a s with
  | none=>rw[h1]at h;cases h
  | some s1 =>
   rw[h1]at h;rw[Mz ho.2 h,Alq ho.1 h1]
theorem cV {id:Nat} : ∀ {k k':List It},k.all U9=true->GM id k=some k'->k'.all U9=true
 | [],_,_,h=>by simp [GM]at h
 | it::k,k',hk,h=>by
  simp only[List.all_cons,Bool.and_eq_true]at hk;cases it with
  | blk i =>
   simp only[GM]at h;split at h
   ·cases h;exact hk.2
   ·exact cV hk.2 h
  | code c=>simp only[GM]at h;exact cV hk.2 h
  | du a b=>simp only[GM]at h;exact cV hk.2 h
  | lp c=>simp only[GM]at h;exact cV hk.2 h
theorem LZ {C:Cl} : ∀ (n:Nat) {k:List It},k.all U9=true -> ∀ {s s':St},run C n k s=some s'->s'.own=s.own
 | 0,k,_,s,s',h=>by simp [run]at h
 | n+1,[],_,s,s',h=>by
  simp only[run,Option.some.injEq]at h;rw[h]
 | n+1,it::k,hk,s,s',h=>by
  have bz:=hk;simp only[List.all_cons,Bool.and_eq_true]at hk;obtain ⟨hi,hk⟩:=hk;cases it with
  | blk _=>simp only[run]at h;exact LZ n hk h
  | du ts ss =>
   have:ss=[]:=by simpa [U9] using hi
   subst this;simp only[run]at h;rw[LZ n hk h];rfl
  | lp c=>simp only[run]at h;exact LZ n (by simp only[List.all_cons,Bool.and_eq_true];exact ⟨hi,hi,hk⟩) h
  | code c =>
   cases c with
   | skip=>simp only[run]at h;exact LZ n hk h
   | ops l d =>
    simp only[run]at h;cases h1:FS C l s with
    | none=>rw[h1]at h;cases h
    | some s1 =>
     rw[h1]at h;rw[LZ n hk h,Mz (show (l.all λ a=>aB a.op)=true from hi) h1]
   | dr c ts ss =>
    simp only[run]at h;simp only[U9,LJ,Bool.and_eq_true]at hi;exact LZ n (by simp only[List.all_cons,Bool.and_eq_true];exact ⟨hi.1,hi.2,hk⟩) h
   | scope c=>simp only[run]at h;exact LZ n (by simp only[List.all_cons,Bool.and_eq_true];exact ⟨hi,hk⟩) h
   | seq a b =>
    simp only[run]at h;simp only[U9,LJ,Bool.and_eq_true]at hi;exact LZ n (by simp only[List.all_cons,Bool.and_eq_true];exact ⟨hi.1,hi.2,hk⟩) h
   | cond x a b =>
    simp only[U9,LJ,Bool.and_eq_true]at hi;simp only[run]at h;split at h
    ·exact LZ n (by simp only[List.all_cons,Bool.and_eq_true];exact ⟨hi.1,hk⟩) h
    ·exact LZ n (by simp only[List.all_cons,Bool.and_eq_true];exact ⟨hi.2,hk⟩) h
    ·cases h
   | block id c=>simp only[run]at h;exact LZ n (by simp only[List.all_cons,Bool.and_eq_true];exact ⟨hi,rfl,hk⟩) h
   | loop c=>simp only[run]at h;exact LZ n (by simp only[List.all_cons,Bool.and_eq_true];exact ⟨hi,hi,hk⟩) h
   | exit id =>
    simp only[run]at h;split at h
    ·rename_i k' he
     exact LZ n (cV hk he) h
    ·cases h
   | ret =>
    simp only[run,Option.some.injEq]at h;rw[h]
def Vp (fn:AFn) (r:AV) (tm:Tm) (_M:Mem):Prop := ∃ rs,WO tm fn.res=some rs/\KE rs=r
def gT:AV->Bool
 | .tup vs=>N5 vs
 | v=>V7 v
theorem wC {σ:IJ} {v:AV} (h:gT v=true):DB σ v=v:=by
 cases v with
 | tup vs =>
  simp only[DB];congr 1;simp only[gT]at h;induction vs with
  | nil=>rfl
  | cons v r ih =>
   simp only[N5]at h;cases hv:V7 v<;>simp only[hv,cond_true,cond_false]at h
   ·cases h
   ·rw[List.map_cons,ih h]
    congr 1;cases v<;>first|rfl|(simp [V7,ka]at hv;done)|skip
    rename_i cs;exact gS (σ:=σ) (v := .agg cs) hv
 | _=>exact gS (σ:=σ) h
def bF (L:Lib) (f:Nat) (vs:List AV) (r:AV):Prop:=gT r=true/\(∀ σ:IJ,vs.map (DB σ)=vs) /\ ∀ own:BT,JN L f vs own r own
theorem vZ {σ:IJ} : ∀ {vs:List AV},N5 vs=true->vs.map (DB σ)=vs
 | [],_=>rfl
 | v::r,h=>by
  simp only[N5]at h;cases hv:V7 v<;>simp only[hv,cond_true,cond_false]at h
  ·cases h
  ·rw[List.map_cons,gS hv,vZ h]
theorem Vq {f:Nat} {fn:AFn} {vs:List AV} {r:AV} (hL:L f=some fn) (hp:Nat.beq vs.length fn.s8=true) (hd:N5 vs=true) (vu:LJ fn.body=true) (e9:dS 100000 fn.res=true) (hr:gT r=true) (h:AH L [.code fn.body] (EU 0 vs) [] (Vp fn r)):bF L f vs r:=by
 refine ⟨hr,λ σ=>vZ hd,λ own => ?_⟩;obtain ⟨n,c,e5,i7,σ,tm,M,hR,rs,hrs,he⟩:=h (λ_ _=>(0,0)) ⟨EU 0 vs,own⟩ ⟨λ j=>Or.inr (by rw[NM];exact cA hd j),⟨(λ_ _ _ e=>by cases e),(λ_ _ _ e=>by simp [a8,b9]at e),(λ_ _ _ e=>by simp [a8,b9]at e),(λ_ _ _ _ _ _ e=>by simp [a8,b9]at e),(λ_ _ _ e=>by simp [a8,b9]at e)⟩⟩;have ho:=LZ n (by simp [U9,vu]) i7;obtain ⟨i1,i2⟩:=pV (N:=100000) (s:=e5) hR (λ_ _=>rfl) e9 hrs;refine JN.intro hL (DI.1 hp) ⟨n,c,e5,i7,?_,ho⟩;rw[i1,Option.map_some,Ko i2,he,wC hr]
theorem NU {f:Nat} {vs:List AV} {r:AV} {tm:Tm} {M:Mem} {K:AV->Mem->Prop} (h:bF L f vs r) (hk:K r M):CW L f vs tm M K:=by
 intro σ own hs;refine ⟨r,own,σ,M,?_,hs,λ_=>rfl,hk⟩;rw[h.2.1 σ,wC h.1];exact h.2.2 own
end Go.Eng

namespace Go.Eng
theorem sD {A w C:List Nat} {i n:Nat} (hi:i=A.length+n) (hn:n<w.length):(A++w++C)[i]? = w[n]? := by
 subst hi;rw[List.append_assoc,List.getElem?_append_right (by omega),Nat.add_sub_cancel_left,List.getElem?_append_left hn]
theorem AlV {A w C:List Nat} {i n v:Nat} (hi:i=A.length+n) (hn:n<w.length):(A++w++C).set i v=A++w.set n v++C:=by
 subst hi;rw[List.append_assoc,List.set_append_right _ _ (by omega),Nat.add_sub_cancel_left,List.set_append_left _ _ hn,List.append_assoc]
theorem Amc {A w C:List Nat} {i:Nat} {K:List AV->Prop} (n:Nat) (hi:i=A.length+n) (hD:CP w) (hn:n<w.length) (h : ∀ e,w[n]? = some e->e<4294967296->K (BZ e)):CR ((A++w++C).map BZ) i 0 1 K:=by
 obtain ⟨e,he⟩ : ∃ e,w[n]? = some e:=⟨_,zE hn⟩;refine W8 (e:=e) (by rw[sD hi hn];exact he) rfl (h e he (hD.at he))
theorem TT {A w C:List Nat} {i v:Nat} {KK:List (List AV)->Prop} (n:Nat) (hi:i=A.length+n) (hn:n<w.length) (h:KK ((A++w.set n v++C).map BZ)):CU ((A++w++C).map BZ) i 0 [.int .u32 (v:Int)] KK:=by
 have hl:i<(A++w++C).length:=by simp;omega
 refine ZJ (enc:=BZ) i v rfl rfl (λ_=>rfl) hl ?_;rw[AlV hi hn];exact h
theorem Akk {W X Vi p q u d c b pr t:Nat} (h:W+q*Vi=X+p*(c+b)) (jx:pr=q*d+c) (ht:t=HC (HC u (pr%4294967296)) b) (hu:u<4294967296) (hb:b<=1) :
  W+p*(t%4294967296)+q*(Vi+p*d)=X+p*u+p*4294967296*(pr/4294967296+t/9223372036854775808):=by
 obtain ⟨h1,_⟩:=kD hu (show pr%4294967296<4294967296 by omega) hb;rw[<-ht]at h1;have h2:=Nat.mod_add_div pr 4294967296;generalize t%4294967296=w at *;generalize t/9223372036854775808=b' at *;generalize pr%4294967296=pl at *;generalize pr/4294967296=ph at *;have e1:p*(w+pl+b)=p*(u+4294967296*b'):=by rw[h1]
 have e2:p*(pl+4294967296*ph)=p*(q*d+c):=by rw[h2,jx]
 grind
theorem Ji {q d c pr:Nat} (hq:q<4294967296) (hd:d<4294967296) (hc:c<4294967296) (jx:pr=q*d+c):pr/4294967296<4294967296/\pr<=18446744073709551615/\q*d<=18446744065119617025:=by
 have:=Z9 hq hd
 omega
theorem Aki {W X V p q u c b t:Nat} (h:W+q*V=X+p*(c+b)) (ht:t=HC (HC u c) b) (hu:u<4294967296) (hc:c<4294967296) (hb:b<=1) :
  W+p*(t%4294967296)+q*V=X+p*u+p*4294967296*(t/9223372036854775808):=by
 obtain ⟨h1,_⟩:=kD hu hc hb;rw[<-ht]at h1;generalize t%4294967296=w at *;generalize t/9223372036854775808=b' at *;have e1:p*(w+c+b)=p*(u+4294967296*b'):=by rw[h1]
 grind
theorem Akl {W X Vi p q u d c b pr w take have' w5:Nat} (h:W+q*Vi=X+p*(c+b)) (jx:pr=c+q*d) (h1:take=pr%4294967296+b) (h2:(have'=u/\w5=0/\take<=u)\/(have'=u+4294967296/\w5=1/\u<take)) (h3:w+take=have') :
  W+p*w+q*(Vi+p*d)=X+p*u+p*4294967296*(pr/4294967296+w5):=by
 have h4:=Nat.mod_add_div pr 4294967296;have h5:w+pr%4294967296+b=u+4294967296*w5:=by omega
 generalize pr%4294967296=pl at *;generalize pr/4294967296=ph at *;have e1:p*(w+pl+b)=p*(u+4294967296*w5):=by rw[h5]
 have e2:p*(pl+4294967296*ph)=p*(c+q*d):=by rw[h4,jx]
 grind
theorem Akj {W X V p q u c b w take have' w5:Nat} (h:W+q*V=X+p*(c+b)) (h1:take=c+b) (h2:(have'=u/\w5=0/\take<=u)\/(have'=u+4294967296/\w5=1/\u<take)) (h3:w+take=have') :
  W+p*w+q*V=X+p*u+p*4294967296*w5:=by
 have h5:w+c+b=u+4294967296*w5:=by omega
 have e1:p*(w+c+b)=p*(u+4294967296*w5):=by rw[h5]
 grind
theorem tM {W X Vi p w d c t:Nat} (h:W+p*c=X+Vi) (ht:t=w+d+c):W+p*(t%4294967296)+p*4294967296*(t/4294967296)=X+p*w+(Vi+p*d):=by
 have h1:=UX W p t;have e:p*t=p*w+p*d+p*c:=by rw[ht];grind
 omega
theorem tL {W X V R p w c:Nat} (h:W+p*c=X+V) (hX:X+p*w+V=R+p*4294967296) (hR:R<p*4294967296) (hW:W<p):W+p*((w+c)%4294967296)=R:=by
 have h1:W+p*(w+c)=R+p*4294967296:=by
  rw[Nat.mul_add];omega
 have h2:=Nat.mod_add_div (w+c) 4294967296;have h3:p*(w+c)=p*((w+c)%4294967296)+p*4294967296*((w+c)/4294967296):=by
  rw[Nat.mul_assoc,<-Nat.mul_add,h2]
 have h4:(w+c)%4294967296<4294967296:=Nat.mod_lt _ (by omega);generalize (w+c)%4294967296=m at *;generalize (w+c)/4294967296=k at *;have h5:W+p*m<p*4294967296:=by
  have:p*m+p<=p*4294967296:=by rw[<-Nat.mul_succ];exact Nat.mul_le_mul_left p (by omega)
  omega
 have h6:k=1:=by
  rcases Nat.lt_trichotomy k 1 with hk|hk|hk
  ·have:k=0:=by omega
   subst this;omega
  ·exact hk
  ·have:p*4294967296*2<=p*4294967296*k:=Nat.mul_le_mul_left _ (by omega)
   omega
 subst h6;omega
theorem AlI {U V UL VL p u2 v2 v1 top:Nat} (hU:U=UL+p*(u2+4294967296*top)) (hV:V=VL+p*(v2+4294967296*v1)) (qb:VL<p) (h2:v2<4294967296) (h:U<4294967296*V):top<4294967296*(v1+1):=by
 have h3:V<p*(4294967296*(v1+1)):=by
  have:p*(v2+4294967296*v1)+p<=p*(4294967296*(v1+1)):=by
   rw[<-Nat.mul_succ];exact Nat.mul_le_mul_left p (by omega)
  omega
 have h4:p*(4294967296*top)<=U:=by
  have:p*(4294967296*top)<=p*(u2+4294967296*top):=Nat.mul_le_mul_left p (by omega)
  omega
 have h5:p*(4294967296*top)<p*(4294967296*(4294967296*(v1+1))):=by
  have:p*(4294967296*(4294967296*(v1+1)))=4294967296*(p*(4294967296*(v1+1))):=by grind
  omega
 have:=Nat.lt_of_mul_lt_mul_left h5
 omega
structure Gs (U V v1 v2 u2 top q r:Nat):Prop where
 hq:q*v1+r=top
 hr:r<4294967296
 ge:U/V<=q
theorem Gs.next {U V UL VL p v1 v2 u2 top q r:Nat} (g:Gs U V v1 v2 u2 top q r) (hU:U=UL+p*(u2+4294967296*top)) (hV:V=VL+p*(v2+4294967296*v1)) (hUl:UL<p) (q7:0<V) (Ac:U<4294967296*V)
  (h:4294967296<=q\/r*4294967296+u2<q*v2):1<=q/\(q-1)*v1+(r+v1)=top/\U/V<=q-1:=by
 have h1:U/V<q:=by
  rcases h with h|h
  ·exact AiO Ac h q7
  ·exact AiP hU hV hUl g.hq h q7
 have hq:=g.hq;clear h g hU hV Ac;generalize U/V=Q at *;obtain ⟨k,rfl⟩ : ∃ k,q=k+1:=⟨q-1,by omega⟩;refine ⟨by omega,?_,by omega⟩;rw[Nat.add_sub_cancel,<-hq,Nat.add_mul];omega
theorem Gs.start {U V UL VL p v1 v2 u2 top:Nat} (hU:U=UL+p*(u2+4294967296*top)) (hV:V=VL+p*(v2+4294967296*v1)) (hUl:UL<p) (h2:u2<4294967296) (q7:0<V) (h1:0<v1) (h1b:v1<4294967296):Gs U V v1 v2 u2 top (top/v1) (top%v1):=by
 refine ⟨by rw[Nat.mul_comm];exact Nat.div_add_mod _ _,?_,?_⟩
 ·have:=Nat.mod_lt top h1
  omega
 ·rw[Nat.le_div_iff_mul_le h1]
  exact AiQ hU hV hUl h2 q7
theorem Z3 {U V UL VL p v1 v2 u2 top q r:Nat} (hU:U=UL+p*(u2+4294967296*top)) (hV:V=VL+p*(v2+4294967296*v1)) (qb:VL<p) (Ar:2147483648<=v1) (As:v2<4294967296) (Ac:U<4294967296*V) (hq:q*v1+r=top)
  (h:(q<4294967296/\q*v2<=r*4294967296+u2)\/4294967296<=r):q<4294967296/\q<=U/V+1:=by
 rcases h with ⟨h1,h2⟩|h
 ·exact ⟨h1,Jp hU hV qb Ar hq h2 h1⟩
 ·have ht:=AlI hU hV qb As Ac
  have hqb:q<4294967296:=by
   have h3:q*v1<4294967296*v1:=by omega
   exact Nat.lt_of_mul_lt_mul_right h3
  refine ⟨hqb,Jp hU hV qb Ar hq ?_ hqb⟩;have:=Z9 hqb As;omega
theorem Y3 (a:List Nat) (k:Nat):val a=val (a.take k)+4294967296^k*val (a.drop k):=by
 rcases Nat.lt_or_ge a.length k with h|h
 ·rw[List.take_of_length_le (by omega),List.drop_of_length_le (by omega),L2];omega
 ·exact NQ a k h
theorem Y2 (a:List Nat) (k:Nat):val (a.drop k)=a.getD k 0+4294967296*val (a.drop (k+1)):=by
 rcases Nat.lt_or_ge k a.length with h|h
 ·rw[KI (zE h),List.getD_eq_getElem?_getD,zE h];rfl
 ·rw[List.drop_of_length_le h,List.drop_of_length_le (by omega),List.getD_eq_getElem?_getD,List.getElem?_eq_none h];rfl
theorem WE {a:List Nat} (h:CP a) (k:Nat):a.getD k 0<4294967296:=by
 rw[List.getD_eq_getElem?_getD];cases e:a[k]? with
 | none=>simp
 | some d=>simpa using h.at e
theorem getD_some {a:List Nat} {k d:Nat} (h:a[k]? = some d):d=a.getD k 0:=by rw[List.getD_eq_getElem?_getD,h];rfl
theorem getD_none {a:List Nat} {k:Nat} (h:a.length<=k):0=a.getD k 0:=by rw[List.getD_eq_getElem?_getD,List.getElem?_eq_none h];rfl
theorem kL {a:List Nat} (hD:CP a) {n:Nat} (hn:3<=n) (hl:a.length<=n) : ∃ r,r<4294967296^(n-3)/\val a=r+4294967296^(n-3)*(a.getD (n-3) 0+4294967296*(a.getD (n-2) 0+4294967296*a.getD (n-1) 0)):=by
 refine ⟨val (a.take (n-3)),?_,?_⟩
 ·refine Nat.lt_of_lt_of_le (HT (hD.take _)) (Nat.pow_le_pow_right (by omega) ?_)
  rw[List.length_take];omega
 ·have h1:=Y3 a (n-3)
  have h2:=Y2 a (n-3);have h3:=Y2 a (n-3+1);have h4:=Y2 a (n-3+1+1);rw[List.drop_of_length_le (show a.length<=n-3+1+1+1 by omega),L2]at h4;rw[show n-3+1=n-2 by omega]at *;rw[show n-2+1=n-1 by omega]at *;rw[h4,Nat.mul_zero,Nat.add_zero]at h3;rw[h3]at h2;rw[h2]at h1;exact h1
theorem Ot {a:List Nat} (hD:CP a) {n:Nat} (hn:2<=n) (hl:a.length<=n) : ∃ r,r<4294967296^(n-2)/\val a=r+4294967296^(n-2)*(a.getD (n-2) 0+4294967296*a.getD (n-1) 0):=by
 refine ⟨val (a.take (n-2)),?_,?_⟩
 ·refine Nat.lt_of_lt_of_le (HT (hD.take _)) (Nat.pow_le_pow_right (by omega) ?_)
  rw[List.length_take];omega
 ·have h1:=Y3 a (n-2)
  have h2:=Y2 a (n-2);have h3:=Y2 a (n-2+1);rw[List.drop_of_length_le (show a.length<=n-2+1+1 by omega),L2]at h3;rw[show n-2+1=n-1 by omega]at *;rw[h3,Nat.mul_zero,Nat.add_zero]at h2;rw[h2]at h1;exact h1
theorem V9 {a b:Nat} (h:a<=b):(dg a).length<=(dg b).length:=by
 rcases Nat.lt_or_ge (dg b).length (dg a).length with h1|h1
 ·have:=aS h1;omega
 ·exact h1
theorem mD {p:Nat} (h:p<18446744073709551616):val [p%4294967296,p/4294967296]=p/\CP [p%4294967296,p/4294967296]:=by
 refine ⟨by simp [val];omega,λ x hx => ?_⟩;simp at hx;omega
theorem JP {a:List Nat} {k d:Nat} (h:a[k]? = some d):a.getD k 0=d:=(getD_some h).symm
theorem oN {y:List Nat} {s yt:Nat} (hD:CP y) (lz:y[y.length-1]? = some yt) (hl:1<=y.length) (hs:s<=31) (b3:2147483648<=yt*2^s) (b4:yt*2^s<4294967296):val y*2^s<4294967296^y.length/\4294967296^(y.length-1)*2147483648<=val y*2^s:=by
 have h1:=NQ y (y.length-1) (by omega);have h2:=KI lz;rw[List.drop_of_length_le (show y.length<=y.length-1+1 by omega),L2,Nat.mul_zero,Nat.add_zero]at h2;rw[h2]at h1;have h3:=HT (hD.take (y.length-1));rw[List.length_take,Nat.min_eq_left (by omega)]at h3;have e:4294967296^y.length=4294967296^(y.length-1)*4294967296:=by rw[<-Nat.pow_succ,Nat.succ_eq_add_one,show y.length-1+1=y.length by omega]
 rw[e];generalize 4294967296^(y.length-1)=p at *;have hk:(yt+1)*2^s<=4294967296:=by
  have e2:4294967296=2^s*2^(32-s):=by rw[<-Nat.pow_add,show s+(32-s)=32 by omega]
  rw[e2,Nat.mul_comm]at b4;have:=Nat.lt_of_mul_lt_mul_left b4;rw[e2,Nat.mul_comm];exact Nat.mul_le_mul_left _ this
 have h4:val y+1<=p*(yt+1):=by rw[Nat.mul_add];omega
 have h5:=Nat.mul_le_mul_right (2^s) h4;have h6:p*((yt+1)*2^s)<=p*4294967296:=Nat.mul_le_mul_left p hk;rw[<-Nat.mul_assoc]at h6;have h7:p*2147483648<=p*(yt*2^s):=Nat.mul_le_mul_left p b3;have h8:p*(yt*2^s)<=val y*2^s:=by rw[<-Nat.mul_assoc];exact Nat.mul_le_mul_right _ (by omega)
 have h9:=Nat.two_pow_pos s;rw[Nat.add_mul]at h5;exact ⟨by omega,by omega⟩
theorem Oe {v:List Nat} {k c d:Nat} (hD:CP v) (hl:v.length=k+1) (h:4294967296^k*c<=val v) (hd:v[k]? = some d):c<=d:=by
 have h1:=NQ v k (by omega);have h2:=KI hd;rw[List.drop_of_length_le (show v.length<=k+1 by omega),L2,Nat.mul_zero,Nat.add_zero]at h2;rw[h2]at h1;have h3:=HT (hD.take k);rw[List.length_take,Nat.min_eq_left (by omega)]at h3;generalize 4294967296^k=p at *;have h4:p*c<p*(d+1):=by rw[Nat.mul_add];omega
 have:=Nat.lt_of_mul_lt_mul_left h4
 omega
theorem xD (o:List Nat) (j n:Nat) (h:j+n<=o.length) : ∃ A W C,A.length=j/\W.length=n/\o=A++W++C:=by
 refine ⟨o.take j,(o.drop j).take n,(o.drop j).drop n,by simp;omega,by simp;omega,?_⟩;rw[List.append_assoc,List.take_append_drop,List.take_append_drop]
theorem wF {A W C:List Nat} (h:CP (A++W++C)):CP A/\CP W/\CP C:=by
 refine ⟨λ x hx=>h x (by simp [hx]),λ x hx=>h x (by simp [hx]),λ x hx=>h x (by simp [hx])⟩
theorem xG {A W C:List Nat} {j l V:Nat} (hA:A.length=j) (hW:W.length=l+1) (hD:CP (A++W++C)) (h:val ((A++W++C).drop (j+1))<V) (hV:V<4294967296^l) :
  val C=0/\val W<4294967296*V/\val ((A++W++C).take (j+1))+4294967296^(j+1)*val ((A++W++C).drop (j+1))=val A+4294967296^j*val W:=by
 have h1:=Y3 (A++W++C) (j+1);have h2:val (A++W++C)=val A+4294967296^j*(val W+4294967296^(l+1)*val C):=by
  rw[List.append_assoc,aR,aR,hA,hW]
 have h3:=Y2 (A++W++C) j;have h4:(A++W++C).drop j=W++C:=by
  rw[List.append_assoc,List.drop_append_of_le_length (by omega),List.drop_of_length_le (by omega)];rfl
 have h5:=WE hD j;rw[h4,aR,hW]at h3;rw[Nat.pow_succ]at h3;have h6:val C=0:=by
  rcases Nat.eq_zero_or_pos (val C) with h0|h0
  ·exact h0
  ·have:4294967296^l*4294967296*1<=4294967296^l*4294967296*val C:=Nat.mul_le_mul_left _ h0
   omega
 rw[h6,Nat.mul_zero,Nat.add_zero]at h3;refine ⟨h6,by omega,?_⟩;rw[<-h1,h2,h6,Nat.mul_zero,Nat.add_zero]
theorem mP {A W C:List Nat} {j:Nat} (hA:A.length=j) (hC:val C=0):val ((A++W++C).drop j)=val W/\val ((A++W++C).take j)=val A:=by
 rw[List.append_assoc,List.drop_append_of_le_length (by omega),List.drop_of_length_le (by omega),List.take_append_of_le_length (by omega),List.take_of_length_le (by omega),List.nil_append,aR,hC];simp
theorem xF {U VA P Q q V W R:Nat} (h:U=VA+P*W+P*4294967296*(Q*V)) (h2:W=q*V+R):U=VA+P*((q+4294967296*Q)*V+R):=by
 rw[h,h2];grind
theorem Al2 {α β:Type} {L:Lib} {k:List It} {tm:Tm} {M:Mem} {Q:Tm->Mem->Prop} (k':List It) (P:α->β->Prop) (vs:α->β->Tm) (Ms:α->β->Mem) (ts:List Nat) (h1:(∀ a b,P a b->AH L k' (vs a b++o7 ts tm) (Ms a b++M) Q)->AH L k tm M Q) (h2 : ∀ a b,P a b->AH L k' (vs a b++o7 ts tm) (Ms a b++M) Q):AH L k tm M Q:=h1 h2
section
variable {a b:Nat} {K:AV->Prop}
theorem tC (n:Nat) (hx:a%2^n=0) (hy:b<2^n) (h:a+b<=18446744073709551615) (hk:K (.int .u64 ((a+b:Nat):Int))):BD .or .u64 (a:Int) .u64 (b:Int) K :=
 kU n hx hy (show a+b<18446744073709551616 by omega) (IntWalk.u64_in _ (by omega)) hk
theorem eV (n:Nat) (hx:b%2^n=0) (hy:a<2^n) (h:a+b<=18446744073709551615) (hk:K (.int .u64 ((a+b:Nat):Int))):BD .or .u64 (a:Int) .u64 (b:Int) K:=by
 have e:F4 .or .u64 (a:Int) .u64 (b:Int)=F4 .or .u64 (b:Int) .u64 (a:Int):=by
  simp only[F4,if_true,BitVec.or_comm]
 rw[Nat.add_comm]at hk h;have hh:=tC (K:=K) n hx hy h hk;unfold BD at hh ⊢;rw[e];exact hh
end
theorem eT {a:Nat} {K:AV->Prop} (h:a<=18446744069414584319) (hk:K (.int .u64 ((a+4294967296:Nat):Int))):BD .add .u64 (a:Int) .u64 4294967296 K :=
 I9 (b:=4294967296) (by omega) hk
theorem MX {l:List Nat} {i e:Nat} {K:List AV->Prop} (he:l[i]? = some e) (h:K (BZ e)):CR (l.map BZ) (0+((i:Int)).toNat) 0 1 K :=
 W8 (e:=e) (by rw[Nat.zero_add,Int.toNat_natCast];exact he) rfl h
theorem Uz {l:List Nat} {i:Int} {e:Nat} {K:List AV->Prop} (he:l[i.toNat]? = some e) (h:K (BZ e)):CR (l.map BZ) (0+i.toNat) 0 1 K :=
 W8 (e:=e) (by rw[Nat.zero_add];exact he) rfl h
theorem VZ {A w C:List Nat} {i e:Nat} {K:List AV->Prop} (n:Nat) (he:w[n]? = some e) (hi:i=A.length+n) (h:K (BZ e)):CR ((A++w++C).map BZ) i 0 1 K:=by
 have hn:=(zS he).1;exact W8 (e:=e) (by rw[sD hi hn];exact he) rfl h
end Go.Eng

namespace Go.Eng
def Z4 (n s:Nat):Nat:=4294967296^(n-3)*(2^(32-s)*4)
theorem AjZ (n s:Nat):0<Z4 n s:=Nat.mul_pos (Nat.pow_pos (by omega)) (Nat.mul_pos (Nat.two_pow_pos _) (by omega))
theorem Ij {a:List Nat} (hD:CP a) {n s d1 d2 d3:Nat} (hn:3<=n) (hl:a.length<=n) (hs:s<=31) (h1:d1=a.getD (n-1) 0) (h2:d2=a.getD (n-2) 0) (h3:d3=a.getD (n-3) 0) :
  ((d1*4294967296+d2)*2^s+d3*2^s/4294967296)/4=val a/Z4 n s:=by
 obtain ⟨r,hr,hv⟩:=kL hD hn hl;rw[<-h1,<-h2,<-h3]at hv;unfold Z4;rw[hv,<-Nat.div_div_eq_div_mul,Nat.add_mul_div_left _ _ (Nat.pow_pos (by omega)),Nat.div_eq_of_lt hr,Nat.zero_add,<-Nat.div_div_eq_div_mul];congr 1;have e:d3+4294967296*(d2+4294967296*d1)=d3+2^(32-s)*(2^s*(d1*4294967296+d2)):=by
  rw[<-Nat.mul_assoc,<-Nat.pow_add,show 32-s+s=32 by omega];omega
 rw[e,Nat.add_mul_div_left _ _ (Nat.two_pow_pos _)];have:=Nw (d:=d3) (s:=s) (by omega);rw[WT]at this;rw[this,Nat.mul_comm (2^s)];omega
theorem Ik {a:List Nat} (hD:CP a) {n s d1 d2:Nat} (hn:3<=n) (hl:a.length<=n) (h1:d1=a.getD (n-1) 0) (h2:d2=a.getD (n-2) 0) (e9:val a*2^s<4294967296^n) :
  (d1*4294967296+d2)*2^s<=18446744073709551615:=by
 obtain ⟨r,hr,hv⟩:=kL hD hn hl;rw[<-h1,<-h2]at hv;generalize a.getD (n-3) 0=d3 at *;have e:4294967296^n=4294967296^(n-3)*(4294967296*18446744073709551616):=by
  rw[show n=n-3+3 by omega,Nat.pow_add,show n-3+3-3=n-3 by omega]
 rw[e,hv]at e9;generalize 4294967296^(n-3)=p at *;have h3:p*(4294967296*((d1*4294967296+d2)*2^s))<p*(4294967296*18446744073709551616):=by
  refine Nat.lt_of_le_of_lt ?_ e9;rw[<-Nat.mul_assoc,<-Nat.mul_assoc];refine Nat.mul_le_mul_right _ ?_;have h5:p*(4294967296*(d2+4294967296*d1))<=p*(d3+4294967296*(d2+4294967296*d1)):=Nat.mul_le_mul_left p (by omega);rw[Nat.mul_assoc,show d1*4294967296+d2=d2+4294967296*d1 by omega];omega
 have:=Nat.lt_of_mul_lt_mul_left (Nat.lt_of_mul_lt_mul_left h3)
 omega
theorem iT {k s:Nat} (hs:s<=64) (h:k*2^s<=18446744073709551615):k*2^s+2^s<=18446744073709551616:=by
 have e:18446744073709551616=2^(64-s)*2^s:=by rw[<-Nat.pow_add,show 64-s+s=64 by omega]
 have h1:k<2^(64-s):=by
  refine Nat.lt_of_mul_lt_mul_right (a:=2^s) ?_;rw[<-e];omega
 have h2:=Nat.mul_le_mul_right (2^s) h1;rw[Nat.succ_mul,<-e]at h2;exact h2
theorem Il {a:List Nat} (hD:CP a) {n s:Nat} (hn:3<=n) (hl:a.length<=n) (hs:s<=31) (e9:val a*2^s<4294967296^n):val a/Z4 n s<=4611686018427387904:=by
 rw[<-Ij hD hn hl hs rfl rfl rfl];have h1:=Ik hD hn hl rfl rfl e9;have b3:=WE hD (n-3);have h2:=iT (show s<=64 by omega) h1;obtain ⟨_,h3,_,_⟩:=YS (s:=s) b3 (by omega);rw[WT]at h3;generalize (a.getD (n-1) 0*4294967296+a.getD (n-2) 0)*2^s=T at *;generalize a.getD (n-3) 0*2^s=U at *;omega
theorem Im {V K:Nat} (hK:0<K) : ∃ e:Int,(V:Int)=(K:Int)*((V/K:Nat):Int)+e/\0<=e/\e<=K:=by
 refine ⟨((V%K:Nat):Int),?_,by omega,?_⟩
 ·have:=Nat.div_add_mod V K
  have h2:((K*(V/K)+V%K:Nat):Int)=(V:Int):=by rw[this]
  rw[<-h2];simp
 ·have:=Nat.mod_lt V hK
  omega
def bY (t:Int):Nat:=(t%4294967296).toNat
theorem uZ (t:Int):bY t<4294967296:=by unfold bY;omega
theorem lS (t:Int):(bY t:Int)=t%4294967296:=by unfold bY;omega
def VX (f g:Int):Prop:=(0<=f/\f<=2147483647 /\ -2147483647<=g/\g<=0)\/(-2147483647<=f/\f<=0/\0<=g/\g<=2147483647)
theorem Nv {f:Int} {d:Nat} (hd:d<4294967296):(0<=f->f<=2147483647->0<=f*d/\f*d<=9223372030412324865)/\(f<=0 -> -2147483647<=f->f*d<=0 /\ -9223372030412324865<=f*d):=by
 constructor
 ·intro h0 h1
  refine ⟨Int.mul_nonneg h0 (by omega),?_⟩;have:f*d<=2147483647*4294967295:=Int.mul_le_mul h1 (by omega) (by omega) (by omega);omega
 ·intro h0 h1
  have a1:0<=(-f)*d:=Int.mul_nonneg (by omega) (by omega);have a2:(-f)*d<=2147483647*4294967295:=Int.mul_le_mul (by omega) (by omega) (by omega) (by omega);rw[Int.neg_mul]at a1 a2;omega
theorem VX.Rq {f g:Int} (h:VX f g) {d e:Nat} (hd:d<4294967296) (he:e<4294967296):(-9223372030412324865<=f*d/\f*d<=9223372030412324865)/\(-9223372030412324865<=g*e/\g*e<=9223372030412324865) /\ -9223372030412324865<=f*d+g*e/\f*d+g*e<=9223372030412324865:=by
 obtain ⟨a1,a2⟩:=Nv (f:=f) hd;obtain ⟨b1,b2⟩:=Nv (f:=g) he;rcases h with ⟨h1,h2,h3,h4⟩|⟨h1,h2,h3,h4⟩
 ·have:=a1 h1 h2;have:=b2 h4 h3;omega
 ·have:=a2 h2 h1;have:=b1 h3 h4;omega
theorem vB {V X Y p c f g d e t:Int} (h:V+p*c=f*X+g*Y) (ht:t=f*d+c+g*e):V+p*(t%4294967296)+p*4294967296*(t/4294967296)=f*(X+p*d)+g*(Y+p*e):=by
 have h1:=Int.emod_add_mul_ediv t 4294967296;have h2:p*(t%4294967296)+p*4294967296*(t/4294967296)=p*t:=by
  rw[Int.mul_assoc,<-Int.mul_add,h1]
 have h3:p*t=f*(p*d)+p*c+g*(p*e):=by rw[ht];grind
 have h4:f*(X+p*d)=f*X+f*(p*d):=by rw[Int.mul_add]
 have h5:g*(Y+p*e)=g*Y+g*(p*e):=by rw[Int.mul_add]
 omega
theorem Wj {V P:Nat} {c R:Int} (hV:V<P) (h:(V:Int)+P*c=R) (h0:0<=R) (h1:R<P):(V:Int)=R:=by
 have hc:c=0:=by
  rcases Int.lt_trichotomy c 0 with hc|hc|hc
  ·have:(P:Int)*c<=P*(-1):=Int.mul_le_mul_of_nonneg_left (by omega) (by omega)
   omega
  ·exact hc
  ·have:(P:Int)*1<=P*c:=Int.mul_le_mul_of_nonneg_left (by omega) (by omega)
   omega
 subst hc;omega
theorem cY (x y:Nat):Nat.gcd y (x%y)=Nat.gcd x y:=by
 rw[Nat.gcd_comm x y,Nat.gcd_rec y x];exact Nat.gcd_comm _ _
def zv (neg:Bool) (m:List Nat):Int:=bif neg then -(val m:Int) else (val m:Int)
abbrev rZ (q neg:Bool) (m:List Nat):List AV:=[.bool neg,.sl q (m.map BZ)]
abbrev eZ (z:Int):List AV:=rZ false (decide (z<0)) (dg z.natAbs)
theorem HO (neg:Bool) (m:List Nat):(zv neg m).natAbs=val m:=by cases neg<;>simp [zv]
theorem HW (z:Int):zv (decide (z<0)) (dg z.natAbs)=z:=by
 unfold zv;rw[DP];by_cases h:z<0
 ·simp [h];omega
 ·simp [h];omega
def Sm (n:Nat) (m:List Nat):Prop:=CP m/\m.length<=n
theorem Sm.dg {n V:Nat} (h:V<4294967296^n):Sm n (dg V):=⟨GR V,T7.2 h⟩
theorem Sm.le {n n':Nat} {m:List Nat} (h:Sm n m) (hn:n<=n'):Sm n' m:=⟨h.1,by have:=h.2;omega⟩
theorem Sm.val {n:Nat} {m:List Nat} (h:Sm n m):val m<4294967296^n:=Nat.lt_of_lt_of_le (HT h.1) (Nat.pow_le_pow_right (by omega) h.2)
theorem Sm.mo {n:Nat} {m:List Nat} (h:Sm n m):Sm n (Go.Eng.dg (Go.Eng.val m)):=Sm.dg h.val
theorem HF {z:Int} {b:Bool} {n:Nat} (h1:n=z.natAbs) (h2:b=decide (z<0)):AV.agg [.bool b,.sl false ((dg n).map BZ)] = .agg (eZ z):=by rw[h1,h2]
theorem GC (z:Int):CT (.agg (eZ z)):=by
 simp only[CT,FG,and_true,true_and];exact E5 _
theorem SZ {z:Int} (h:z<0):true=decide (z<0):=by simp [h]
theorem JI {z:Int} (h:0<=z):false=decide (z<0):=by simp;omega
theorem Ny (n:Nat):Sm n []:=⟨T8,Nat.zero_le _⟩
theorem qO {n d:Nat} (hn:1<=n) (hd:d<4294967296):Sm n [d]:=⟨KQ hd,hn⟩
theorem Oz (b:Bool):zv b []=0:=by cases b<;>rfl
theorem Sm.low {n V:Nat} {m:List Nat} (h:Sm n m) (hV:V<=Go.Eng.val m):Sm n (Go.Eng.dg V):=Sm.dg (Nat.lt_of_le_of_lt hV h.val)
theorem Sm.mul {n k:Nat} {a b:List Nat} (ha:Sm n a) (hb:Sm k b) {V:Nat} (hV:V=Go.Eng.val a*Go.Eng.val b):Sm (n+k) (Go.Eng.dg V):=by
 refine Sm.dg ?_;rw[hV,Nat.pow_add];exact Nat.mul_lt_mul_of_le_of_lt (Nat.le_of_lt ha.val) hb.val (Nat.pow_pos (by omega))
theorem Sm.add {n:Nat} {a b:List Nat} (ha:Sm n a) (hb:Sm n b) {V:Nat} (hV:V<=Go.Eng.val a+Go.Eng.val b):Sm (n+1) (Go.Eng.dg V):=by
 refine Sm.dg ?_;have h1:=ha.val;have h2:=hb.val;rw[Nat.pow_succ];omega
theorem LM (V:Nat):(dg V).length=0↔V=0:=by rw[List.length_eq_zero_iff,mE]
theorem HD (m:List Nat):zv false m=(val m:Int):=rfl
theorem UJ (m:List Nat):zv true m = -(val m:Int):=rfl
def sgn (z:Int):Int:=if z<0 then -1 else if 0<z then 1 else 0
theorem qJ {z:Int} (h:z<0) : -1=sgn z:=by unfold sgn;rw[if_pos h]
theorem qK {z:Int} (h:0<z):1=sgn z:=by unfold sgn;rw[if_neg (by omega),if_pos h]
theorem jS {z:Int} (h:z=0):0=sgn z:=by unfold sgn;rw[if_neg (by omega),if_neg (by omega)]
theorem Ou {n:Nat} (h:n<18446744073709551616):val [n%4294967296,n/4294967296]=n:=(by simp [val];omega)
end Go.Eng
