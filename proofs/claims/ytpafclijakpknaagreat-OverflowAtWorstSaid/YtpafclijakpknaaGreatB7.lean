/-
  The walk by computation is sound: calls, regions, code, loops, functions.
-/
import Derived.Test.YtpafclijakpknaaGreatB6
import Derived.Test.YtpafclijakpknaaGreatB2
set_option linter.unusedSimpArgs false
set_option linter.unusedVariables false
set_option linter.unnecessarySimpa false
namespace Go.b8
section
variable {σ:JX} {tm:Tm} {M:Mem} {st:St} {L:Lib} {b7:List Nat}
theorem Ae0 {own:BD} {q:Bool} {d:Nat} : ∀ {e:List AV},J0 e=true->e.mapM (snap own q d)=some e
 | [],_=>rfl
 | v::r,h=>by
  have hv:snap own q d v=some v/\J0 r=true:=by
   cases v<;>simp only[J0]at h<;>first|cases h|exact ⟨by cases d<;>rfl,h⟩
  rw[List.mapM_cons,hv.1,Ae0 hv.2];rfl
theorem Ae2 {own:BD} {q:Bool} {d:Nat} : ∀ {e:List AV},S0 e=true->e.mapM (snap own q d)=some (e.map nl)
 | [],_=>rfl
 | v::r,h=>by
  have hv:snap own q d v=some (nl v)/\S0 r=true:=by
   cases v<;>simp only[S0]at h<;>first|cases h|exact ⟨by cases d<;>rfl,h⟩
  rw[List.mapM_cons,hv.1,Ae2 hv.2];rfl
theorem Ae1 {own:BD} {q:Bool} {d:Nat} : ∀ {es:List (List AV)},(∀ e∈es,S0 e=true)->es.mapM (λ cs:List AV=>cs.mapM (snap own q d))=some (es.map λ e=>e.map nl)
 | [],_=>rfl
 | e::r,h=>by
  rw[List.mapM_cons,Ae2 (h e List.mem_cons_self),Ae1 λ x hx=>h x (List.mem_cons_of_mem _ hx)];rfl
theorem AeZ {own:BD} {q:Bool} {d:Nat} : ∀ {es:List (List AV)},(∀ e∈es,J0 e=true)->es.mapM (λ cs:List AV=>cs.mapM (snap own q d))=some es
 | [],_=>rfl
 | e::r,h=>by
  rw[List.mapM_cons,Ae0 (h e List.mem_cons_self),AeZ λ x hx=>h x (List.mem_cons_of_mem _ hx)];rfl
theorem Af3 (hs:NP σ st.own M) {q:Bool} {v:AV} {K:AV->Prop} (h:dC q M b7 v K) : ∃ v',(∀ d,snap (st.own.o5 b7) q (d+1) (C2 σ v)=some v')/\K v'/\v ≠ .any/\DK σ v=C2 σ v:=by
 cases v with
 | row key t z off len =>
  have fin : ∀ (z':Nat) (es:List (List AV)),((st.own.o5 b7) (σ key t).1).c9 (σ key t).2=some ⟨z',es⟩->z=z'->B2 es off len (λ es=>K (.sl q es)) -> ∃ v',(∀ d,snap (st.own.o5 b7) q (d+1) (C2 σ (.row key t z off len))=some v')/\K v'/\AV.row key t z off len ≠ .any/\DK σ (.row key t z off len)=C2 σ (.row key t z off len):=by
   intro z' es hb hz h;subst hz;obtain ⟨h1,h2,h3⟩:=h;refine ⟨_,λ d => ?_,h3,(by intro e;cases e),rfl⟩;simp only[C2,snap,IM,BD.get,hb];rw[if_pos ⟨h1,trivial⟩];simp only;rw[Ae1 λ e he=>h2 e (List.mem_of_mem_drop (List.mem_of_mem_take he))];rfl
  simp only[dC]at h;split at h
  ·rename_i s z' es hm
   split at h
   ·cases hz:Nat.beq z z'<;>simp only[hz,cond_true,cond_false]at h
    cases hb:aB s b7<;>simp only[hb,cond_true,cond_false]at h;refine fin z' es ?_ (EF.1 hz) h;have bh:=hs.c9 _ _ _ (IJ hm);rw[hs.site _ _ _ hm]at bh ⊢;rw[gG hb];exact bh
   ·exact h.elim
  ·rename_i s rows hm
   split at h
   ·exact h.elim
   ·rename_i i
    split at h
    ·obtain ⟨z',es,g,h⟩:=h
     cases hz:Nat.beq z z'<;>simp only[hz,cond_true,cond_false]at h;exact fin z' es (hs.c9 key (i+1) (.rw z' es) (by simp [b9,hm,g])) (EF.1 hz) h
    ·rename_i b r
     cases hb:cJ (b::r)<;>simp only[hb,cond_true,cond_false]at h;obtain ⟨z',es,g,h⟩:=h;cases hz:Nat.beq z z'<;>simp only[hz,cond_true,cond_false]at h;have g':b9 M key (i+1)=some (.rw z' es):=by simp [b9,hm,g]
     refine fin z' es ?_ (EF.1 hz) h;rw[xX (hs.low _ _ _ g' rfl) hb];exact hs.c9 key (i+1) (.rw z' es) g'
  ·exact h.elim
 | int k n=>exact ⟨_,λ d=>rfl,h,(by intro e;cases e),rfl⟩
 | bool b=>exact ⟨_,λ d=>rfl,h,(by intro e;cases e),rfl⟩
 | sl l es=>exact ⟨_,λ d=>rfl,h,(by intro e;cases e),rfl⟩
 | dc c=>exact ⟨_,λ d=>rfl,h,(by intro e;cases e),rfl⟩
 | nil=>exact ⟨_,λ d=>rfl,h,(by intro e;cases e),rfl⟩
 | _=>exact (h:False).elim
theorem Af2 (hs:NP σ st.own M) {q:Bool} : ∀ {l:List AV} {K:List AV->Prop},rA q M b7 l K -> ∃ l',(∀ d,(l.map (C2 σ)).mapM (snap (st.own.o5 b7) q (d+1))=some l')/\K l'
 | [],K,h=>⟨[],λ d=>rfl,h⟩
 | v::r,K,h=>by
  obtain ⟨v',h1,h2,_⟩:=Af3 hs (show dC q M b7 v λ v'=>rA q M b7 r λ r'=>K (v'::r') from h);obtain ⟨l',h3,h4⟩:=Af2 hs h2;refine ⟨v'::l',λ d => ?_,h4⟩;rw[List.map_cons,List.mapM_cons,h1 d,h3 d];rfl
theorem Af1 (hs:NP σ st.own M) {q:Bool} : ∀ {l:List (List AV)} {K:List (List AV)->Prop},zL q M b7 l K -> ∃ l',(∀ d,(l.map λ cs=>cs.map (C2 σ)).mapM (λ cs:List AV=>cs.mapM (snap (st.own.o5 b7) q (d+1)))=some l')/\K l'
 | [],K,h=>⟨[],λ d=>rfl,h⟩
 | v::r,K,h=>by
  obtain ⟨v',h1,h2⟩:=Af2 hs (show rA q M b7 v λ v'=>zL q M b7 r λ r'=>K (v'::r') from h);obtain ⟨l',h3,h4⟩:=Af1 hs h2;refine ⟨v'::l',λ d => ?_,h4⟩;rw[List.map_cons,List.mapM_cons,h1 d,h3 d];rfl
theorem yX {own:BD} {q:Bool} {d:Nat} {k:Nat} : ∀ {rows:List (Option (Nat × List (List AV)))} {i:Nat},(∀ j z es,rows[j]? = some (some (z,es))->(own (σ k (i+j+1)).1).c9 (σ k (i+j+1)).2=some ⟨z,es⟩ /\ ∀ e∈es,J0 e=true) ->
  (FC σ k i rows).mapM (λ cs:List AV=>cs.mapM (snap own q (d+1)))=some (XT q rows)
 | [],i,h=>rfl
 | none::r,i,h=>by
  rw[FC,List.mapM_cons,yX (i:=i+1) λ j z es hj=>by
   have:=h (j+1) z es (by simpa using hj)
   rwa [show i+(j+1)+1=i+1+j+1 by omega]at this]
  rfl
 | some (z,es)::r,i,h=>by
  rw[FC,List.mapM_cons,yX (i:=i+1) λ j z es hj=>by
   have:=h (j+1) z es (by simpa using hj)
   rwa [show i+(j+1)+1=i+1+j+1 by omega]at this]
  obtain ⟨h1,h2⟩:=h 0 z es rfl;have:snap own q (d+1) (.row (σ k (i+1)).1 (σ k (i+1)).2 z 0 es.length)=some (.sl q es):=by
   simp only[snap,IM,BD.get];rw[show (own (σ k (i+1)).1).c9 (σ k (i+1)).2=some ⟨z,es⟩ from h1];simp only[Nat.zero_add,Nat.le_refl,and_self,if_true,List.drop_zero];rw[zT (Nat.le_refl _),AeZ h2];rfl
  rw[List.mapM_cons,this];rfl
theorem Af0 (hs:NP σ st.own M) {q:Bool} {v:AV} {K:AV->Prop} (h:lO q M b7 v K) : ∃ v',snap (st.own.o5 b7) q 6 (C2 σ v)=some v'/\K v'/\v ≠ .any/\DK σ v=C2 σ v/\F8 (st.own.o5 b7) q (C2 σ v)=some v':=by
 have ya:dC q M b7 v K -> ∃ v',snap (st.own.o5 b7) q 6 (C2 σ v)=some v'/\K v'/\v ≠ .any/\DK σ v=C2 σ v/\F8 (st.own.o5 b7) q (C2 σ v)=some v':=by
  intro h;obtain ⟨v',h1,h2,h3,h4⟩:=Af3 hs h;refine ⟨v',h1 5,h2,h3,h4,?_⟩;have:=h1 5
  cases v<;>first|exact this|exact (h:False).elim
 unfold lO at h;split at h
 ·rename_i key z off len
  split at h
  ·rename_i s z' es hm
   cases hz:Nat.beq z z'<;>simp only[hz,cond_true,cond_false]at h;cases hb:aB s b7<;>simp only[hb,cond_true,cond_false]at h;cases ho:Nat.beq off 0<;>simp only[ho,cond_true,cond_false]at h;obtain rfl:=EF.1 hz;obtain rfl:=EF.1 ho;obtain ⟨rfl,h⟩:=h;obtain ⟨l',h1,h2⟩:=Af1 hs h;have bh:=hs.c9 _ _ _ (IJ hm);rw[hs.site _ _ _ hm]at bh;have key:snap (st.own.o5 b7) q 6 (C2 σ (.row key 0 z 0 es.length))=some (.sl q l'):=by
    simp only[C2,snap,IM,BD.get,hs.site _ _ _ hm];rw[gG hb,bh];simp only[C3.c9,Nat.zero_add,List.length_map,Nat.le_refl,and_self,if_true,List.drop_zero];rw[zT (by simp),h1 4];rfl
   exact ⟨_,key,h2,(by intro e;cases e),rfl,key⟩
  ·rename_i s rows hm
   split at h
   ·cases hz:Nat.beq z 1<;>simp only[hz,cond_true,cond_false]at h
    obtain rfl:=EF.1 hz;obtain ⟨rfl,rfl,h1,h2⟩:=h;have bh:=hs.c9 _ _ _ (IJ hm);have key:snap (st.own.o5 []) q 6 (C2 σ (.row key 0 1 0 rows.length))=some (.sl q (XT q rows)):=by
     simp only[C2,snap,IM,BD.get,BD.o5];rw[bh];simp only[C3.c9,Nat.zero_add,KT,Nat.le_refl,and_self,if_true,List.drop_zero];rw[zT (by rw[KT];exact Nat.le_refl _),yX (i:=0) λ j z es hj=>⟨by
      have:=hs.c9 key (j+1) (.rw z es) (by simp [b9,hm,hj])
      simpa [C3.c9] using this,h1 z es (zM hj)⟩]
     rfl
    exact ⟨_,key,h2,(by intro e;cases e),rfl,key⟩
   ·exact h.elim
  ·exact ya h
 ·exact ya h
theorem Af4 (hs:NP σ st.own M) {q:Bool} : ∀ {l:List AV} {K:List AV->Prop},zN q M b7 l K -> ∃ l',(l.map (C2 σ)).mapM (snap (st.own.o5 b7) q 6)=some l'/\K l'
 | [],K,h=>⟨[],rfl,h⟩
 | v::r,K,h=>by
  obtain ⟨v',h1,h2,_⟩:=Af0 hs (show lO q M b7 v λ v'=>zN q M b7 r λ r'=>K (v'::r') from h);obtain ⟨l',h3,h4⟩:=Af4 hs h2;refine ⟨v'::l',?_,h4⟩;rw[List.map_cons,List.mapM_cons,h1,h3];rfl
theorem qZ (hs:NP σ st.own M) {q:Bool} {v:AV} {K:AV->Prop} (h:Y4 q M b7 v K) : ∃ v',F8 (st.own.o5 b7) q (C8 σ v)=some v'/\K v'/\v ≠ .any/\C8 σ v=DK σ v:=by
 cases v with
 | agg cs =>
  simp only[Y4]at h;obtain ⟨l',h1,h2⟩:=Af4 hs h;refine ⟨.agg l',?_,h2,(by intro e;cases e),rfl⟩;simp only[OB,F8,h1,Option.map_some]
 | g8 vs=>exact (h:False).elim
 | fn p f g cs=>exact (h:False).elim
 | any=>exact (h:False).elim
 | _ =>
  simp only[Y4]at h;obtain ⟨v',h1,h2,h3,h4,h5⟩:=Af0 hs h;exact ⟨v',h5,h2,h3,rfl⟩
theorem rC (hr:RX σ tm M st) : ∀ {xs:List BL} {K:List AV->Prop},lQ tm M b7 xs K -> ∃ vs,(xs.map st.ev).mapM (F8 (st.own.o5 b7) true)=some vs/\K vs
 | [],K,h=>⟨[],rfl,h⟩
 | x::r,K,h=>by
  obtain ⟨v',h1,h2,h3,_⟩:=qZ hr.sat (show Y4 true M b7 (ex tm x) λ v=>lQ tm M b7 r λ vs=>K (v::vs) from h);obtain ⟨l',h4,h5⟩:=rC hr h2;refine ⟨v'::l',?_,h5⟩;rw[List.map_cons,List.mapM_cons,hr.ev rfl h3,h1,h4];rfl
theorem AqG (hs:NP σ st.own M) {v:AV} {K:AV->Prop} (h:rB M b7 v K) : ∃ v',XY (st.own.o5 b7) true (C8 σ v)=some v'/\K v'/\v ≠ .any/\C8 σ v=DK σ v:=by
 cases v with
 | nil=>exact ⟨.nil,rfl,h,(by intro e;cases e),rfl⟩
 | _ =>
  simp only[rB]at h;obtain ⟨v',h1,h2,h3,h4⟩:=qZ hs h;exact ⟨v',h1,h2,h3,h4⟩
theorem Af5 (hr:RX σ tm M st) : ∀ {xs:List BL} {K:List AV->Prop},zO tm M b7 xs K -> ∃ vs,(xs.map st.ev).mapM (XY (st.own.o5 b7) true)=some vs/\K vs
 | [],K,h=>⟨[],rfl,h⟩
 | x::r,K,h=>by
  obtain ⟨v',h1,h2,h3,_⟩:=AqG hr.sat (show rB M b7 (ex tm x) λ v=>zO tm M b7 r λ vs=>K (v::vs) from h);obtain ⟨l',h4,h5⟩:=Af5 hr h2;refine ⟨v'::l',?_,h5⟩;rw[List.map_cons,List.mapM_cons,hr.ev rfl h3,h1,h4];rfl
theorem jZ (hr:RX σ tm M st) : ∀ {xs:List BL} {K:List AV->Prop},eN tm xs K -> ∃ vs,xs.map st.ev=vs.map (C8 σ)/\K vs
 | [],K,h=>⟨[],rfl,h⟩
 | x::r,K,h=>by
  obtain ⟨h1,h2⟩:=pB (show fV (ex tm x) λ v=>eN tm r λ vs=>K (v::vs) from h);obtain ⟨vs,h3,h4⟩:=jZ hr h2;exact ⟨ex tm x::vs,by rw[List.map_cons,List.map_cons,hr.ev rfl h1,h3],h4⟩
theorem Abt {v:AV} (h:B3 v):C2 σ v=v:=by
 cases v<;>first|rfl|(simp only[B3]at h)
theorem Abr : ∀ {l:List AV},EC l->l.map (C2 σ)=l
 | [],_=>rfl
 | v::r,h=>by
  simp only[EC]at h;rw[List.map_cons,Abt h.1,Abr h.2]
theorem Abu {v:AV} (h:B3 v):DK σ v=v:=by
 cases v with
 | agg cs=>simp only[B3]at h;simp only[DK,Abr h]
 | fn p f g cs=>simp only[B3]at h
 | _=>exact Abt (σ:=σ) h
theorem Abs : ∀ {l:List AV},EC l->l.map (DK σ)=l
 | [],_=>rfl
 | v::r,h=>by
  simp only[EC]at h;rw[List.map_cons,Abu h.1,Abs h.2]
theorem tN {v:AV} (h:B3 v):C8 σ v=v:=by
 cases v with
 | g8 cs=>simp only[B3]at h;simp only[C8,Abs h]
 | _=>exact Abu (σ:=σ) h
theorem Afm {I:List AV->Option (AV × BD)} {vs:List AV} {r:AV} (h:N1 I vs=some r):B3 r:=by
 unfold N1 at h;split at h
 ·split at h
  ·split at h
   ·obtain rfl:=Option.some.inj h
    assumption
   ·cases h
  ·cases h
 ·cases h
theorem Ev.clean {f:Nat} {vs:List AV} {r:AV} (h:Ev L f vs r):B3 r:=by
 obtain ⟨n,h⟩:=h;unfold MJ P6 at h;split at h
 ·split at h
  ·rename_i r1 r2 h1 h2
   split at h
   ·obtain rfl:=Option.some.inj h
    exact Afm h1
   ·cases h
  ·cases h
 ·exact Afm h
theorem RX.put (h:RX σ tm M st) (d:Nat) {v v':AV} (e:v'=C8 σ v):RX σ ((d,v)::tm) M ⟨na st.tm d v',st.own⟩:=by
 refine ⟨λ j => ?_,h.sat⟩;simp only[tg,mE];cases hb:Nat.beq j d
 ·rw[if_neg (J6.1 hb)];exact h.tm j
 ·rw[if_pos (EF.1 hb)];exact Or.inr e
theorem Ae3 : ∀ {cs:List AV},kT cs=true->cs.map (C8 σ)=cs.map (C2 σ)
 | [],_=>rfl
 | v::r,h=>by
  simp only[kT]at h;cases hv:xY v<;>simp only[hv,cond_true,cond_false]at h
  ·cases h
  ·rw[List.map_cons,List.map_cons,Ae3 h]
   cases v<;>first|rfl|(simp [xY]at hv)
theorem Ali {v:AV} (h:LJ v=true):C2 σ v=v:=by cases v<;>first|rfl|(simp [LJ]at h)
theorem Acc : ∀ {cs:List AV},cs.all LJ=true->cs.map (C2 σ)=cs
 | [],_=>rfl
 | c::r,h=>by
  simp only[List.all_cons,Bool.and_eq_true]at h;rw[List.map_cons,Ali h.1,Acc h.2]
theorem Acd : ∀ {vs:List AV},vs.all dq=true->vs.map (C8 σ)=vs
 | [],_=>rfl
 | v::r,h=>by
  simp only[List.all_cons,Bool.and_eq_true]at h;rw[List.map_cons,Acd h.2];congr 1;cases v with
  | agg cs=>simp only[C8,DK,Acc (show cs.all LJ=true from h.1)]
  | _=>first|rfl|(simp [dq,LJ]at h)
theorem AoL {r:AV} (hc:B3 r) (hf:NN r):C8 σ (Dc r)=Dc r:=by
 cases r with
 | agg cs =>
  simp only[Dc,C8,DK];congr 1;rw[List.map_map];refine List.map_congr_left λ c qg => ?_
  have:=hf c qg
  cases c<;>first|rfl|exact this.elim
 | _=>first|rfl|exact hf.elim
theorem AoH {c:AV} (h:B3 c):C2 σ (LQ c)=LQ c:=by
 cases c<;>first|(simp only[LQ,C2];done)|(simp only[B3]at h;done)
theorem AoI {r:AV} (h:B3 r) (hd:aO r):C8 σ (P0 r)=P0 r:=by
 cases r with
 | agg cs =>
  simp only[B3]at h;have : ∀ cs:List AV,EC cs->(MV cs).map (C2 σ)=MV cs:=by
   intro cs;induction cs with
   | nil=>intro _;simp [MV]
   | cons c l ih =>
    intro h;simp only[EC]at h;rw[MV,List.map_cons,ih h.2,AoH h.1]
  simp only[P0,C8,DK,this cs h]
 | g8=>exact hd.elim
 | fn=>exact hd.elim
 | _=>first|(simp only[P0,LQ,C8,DK,C2];done)|(simp only[B3]at h;done)
theorem AoJ {r:AV} (h:B3 r) (hd:NN r\/aO r):C8 σ (RP r)=RP r:=by
 by_cases hf:NN r
 ·rw[xB hf];exact AoL h hf
 ·rw[xA hf];exact AoI h (hd.resolve_left hf)
theorem Ad1 : ∀ {l:List AV},pI l=true->l.map (C8 σ)=l
 | [],_=>rfl
 | .int _ _::r,h=>by
  rw[List.map_cons,Ad1 (l:=r) h];rfl
theorem AiO {K:AV->Mem->Prop} (hr:RX σ tm M st) {op:H0} (h:XE L tm M b7 K op):EI L tm b7 K op st\/(∃ f xs,op = .call f xs)\/(∃ f xs,op = .e8 f xs)\/(∃ x xs,op = .q8 x xs)\/(∃ f xs,op = .n9 f xs)\/(∃ s f xs,op = .q6 s f xs) \/ ∃ s f xs,op = .dh s f xs:=by
 cases op with
 | call f xs=>exact Or.inr (Or.inl ⟨_,_,rfl⟩)
 | e8 f xs=>exact Or.inr (Or.inr (Or.inl ⟨_,_,rfl⟩))
 | q8 x xs=>exact Or.inr (Or.inr (Or.inr (Or.inl ⟨_,_,rfl⟩)))
 | n9 f xs=>exact Or.inr (Or.inr (Or.inr (Or.inr (Or.inl ⟨_,_,rfl⟩))))
 | q6 s f xs=>exact Or.inr (Or.inr (Or.inr (Or.inr (Or.inr (Or.inl ⟨_,_,_,rfl⟩)))))
 | dh s f xs=>exact Or.inr (Or.inr (Or.inr (Or.inr (Or.inr (Or.inr ⟨_,_,_,rfl⟩)))))
 | te s n x v=>exact Or.inl (Ai2 hr h)
 | wh ne x=>exact Or.inl (AiQ hr h)
 | bad=>exact (show False from h).elim
 | js tb x=>exact Or.inl (AiY hr h)
 | td p f xs=>exact Or.inl (AiU hr h)
 | v3 x=>exact Or.inl (AiW hr h)
 | bu s z=>exact Or.inl (Ai4 hr h)
 | pick c a b=>exact Or.inl (AiX hr h)
 | bin o x y=>exact Or.inl (AiF hr h)
 | beq ne x y=>exact Or.inl (AiE hr h)
 | un o x=>exact Or.inl (Ai3 hr h)
 | conv k x=>exact Or.inl (AiJ hr h)
 | box s x=>exact Or.inl (AiG hr h)
 | alloc s z=>exact Or.inl (AiB hr h)
 | build z ps=>exact Or.inl (AiI hr h)
 | a8 s z ps=>exact Or.inl (AiH hr h)
 | k7 x o=>exact Or.inl (AiM hr h)
 | rn x o n a=>exact Or.inl (AiN hr h)
 | v7 a z x i=>exact Or.inl (AiP hr h)
 | ld a n x=>exact Or.inl (AiR hr h)
 | st n x v=>exact Or.inl (Za hr h)
 | mk s z b ze l c=>exact Or.inl (AiT hr h)
 | gn z x lo hi=>exact Or.inl (AiZ hr h)
 | ext x i=>exact Or.inl (AiL hr h)
 | len x=>exact Or.inl (AiS hr h)
 | mm m xs=>exact Or.inl (AiV hr h)
 | app s z b x y=>exact Or.inl (AiC hr h)
 | pz z x y=>exact Or.inl (AiK hr h)
theorem sN {K:AV->Mem->Prop} (hr:RX σ tm M st) {op:H0} {d:Option Nat} {g:Option (Nat × Bool)} {l:List AI} {k:List It} {Q:St->Prop} (h:XE L tm M b7 K op) (hg:J8 st g=some true)
  (hk : ∀ σ' v v' M' n6,K v M'->v'=C8 σ' v->RX σ' tm M' ⟨st.tm,n6⟩->AO L l k ⟨((⟨st.tm,n6⟩:St).dst d v').tm,n6⟩ Q):AO L (⟨d,op,g,b7⟩::l) k st Q:=by
 rcases AiO hr h with ⟨E,σ',v,M',h1,h2,h3,h4⟩|⟨f,xs,rfl⟩|⟨f,xs,rfl⟩|⟨x,xs,rfl⟩|⟨f,xs,rfl⟩|⟨s,f,xs,rfl⟩|⟨s,f,xs,rfl⟩
 ·rw[Ah1 hg h1,sW]
  have:=hk σ' v _ M' _ h2 h3 h4
  cases d<;>exact this
 ·simp only[XE]at h
  obtain ⟨vs,h1,r,h2,h3⟩:=rC hr h;rw[AhP hg h1 h2];have:=hk σ r r M st.own h3 (tN h2.clean).symm hr
  cases d<;>exact this
 ·simp only[XE]at h
  obtain ⟨vs,h1,h2⟩:=jZ hr h;obtain ⟨r,n6,σ',M',h3,h4,h5,h6⟩:=h2 σ st.own hr.sat;rw[<-h1]at h3;rw[AhR hg h3];have:=hk σ' r _ M' n6 h6 rfl ⟨λ j=>by rw[h5 j];exact hr.tm j,h4⟩
  cases d<;>exact this
 ·simp only[XE]at h
  split at h
  ·rename_i f g' e1
   obtain ⟨h0,h⟩:=h;obtain ⟨vs,h1,r,h2,h3⟩:=rC hr h;have e2:=hr.ev e1 (by intro e;cases e);rw[qU,List.map_nil,h0]at e2;rw[AhS hg e2 h1 h2];have:=hk σ r r M st.own h3 (tN h2.clean).symm hr
   cases d<;>exact this
  ·rename_i f g' c cs e1
   obtain ⟨h0,h⟩:=h;obtain ⟨v',h1,h,_,_⟩:=qZ hr.sat h;obtain ⟨vs,h2,r,h3,h4⟩:=rC hr h;have e2:=hr.ev e1 (by intro e;cases e);rw[qU,h0]at e2;have h5:(AV.agg (c::cs |>.map (C2 σ))::xs.map st.ev).mapM (F8 st.own true)=some (v'::vs):=by
    rw[List.mapM_cons,show F8 st.own true (AV.agg (c::cs |>.map (C2 σ)))=some v' from h1,show (xs.map st.ev).mapM (F8 st.own true)=some vs from h2];rfl
   rw[AhQ hg e2 h5 h3];have:=hk σ r r M st.own h4 (tN h3.clean).symm hr
   cases d<;>exact this
  ·rename_i f g' cs e1
   cases ho:kT cs<;>simp only[ho,cond_true,cond_false]at h;obtain ⟨h0,h⟩:=h;obtain ⟨vs,h1,h2⟩:=jZ hr h;rw[MT]at h2;obtain ⟨r,n6,σ',M',h3,h4,h5,h6⟩:=h2 σ st.own hr.sat;rw[List.map_append,<-h1,Ae3 (σ:=σ) ho]at h3;have e2:=hr.ev e1 (by intro e;cases e);rw[qU,h0]at e2;rw[AhW hg e2 h3];have:=hk σ' r _ M' n6 h6 rfl ⟨λ j=>by rw[h5 j];exact hr.tm j,h4⟩
   cases d<;>exact this
  ·exact h.elim
 ·simp only[XE]at h
  obtain ⟨vs,h1,h2⟩:=jZ hr h;cases ho:vs.all dq<;>simp only[ho,cond_true,cond_false]at h2;obtain ⟨r,h3,h4,h5⟩:=h2;have e1:xs.map st.ev=vs:=by rw[h1];exact Acd ho
  rw[AhT hg (by rw[e1];exact ho) (by rw[e1];exact h3) h4];have:=hk σ (RP r) (RP r) M st.own h5 (AoJ h3.clean h4).symm hr
  cases d<;>exact this
 ·simp only[XE]at h
  cases Gf:J9 s<;>simp only[Gf,cond_true,cond_false]at h;obtain ⟨vs,h1,z,es,n,h2,rfl,h3⟩:=Af5 hr h;obtain ⟨k',g1,g2,g3⟩:=OL h3;refine AhU hg h1 h2 ?_;rw[sW];have:=hk (GO σ k' λ_=>(s,st.own.j5 s)) _ (.row s (st.own.j5 s) z 0 es.length) _ _ g3 (by simp only[HK,EL]) (hr.mn (q:=s) g1 g2 (.rw z es) trivial rfl (λ_=>Gf))
  cases d<;>exact this
 ·simp only[XE]at h
  obtain ⟨vs,h1,h2⟩:=jZ hr h;split at h2
  ·rename_i key rest
   cases hi:pI rest<;>simp only[hi,cond_true,cond_false]at h2;obtain ⟨cells,ja,kd,n,g1,g2,g3,g4,g5⟩:=h2;have ig:=hr.sat.site _ _ _ g1;have bh:=hr.sat.c9 _ _ _ (IJ g1);rw[ig]at bh;simp only[C3.c9,OQ g2]at bh;have db:xs.map st.ev = .ptr s (σ key 0).2 0 0::rest:=by
    rw[h1,List.map_cons,IW,ig,Ad1 hi]
   have hE:=g4 (σ key 0).2 (st.own s) bh;refine AhX hg (by rw[db];exact hE) ?_;rw[sW];have:=hk σ (.int kd n) (.int kd n) _ _ g5 rfl (hr.Pz g1 trivial (.bx ja) trivial (λ h=>by cases h))
   simp only[C3.c9,OQ g3]at this;cases d<;>exact this
  ·exact h2.elim
theorem AnB (hr:RX σ tm M st) {g:Nat} {w:Bool} {b:Bool} (e:tg tm g = .bool b):J8 st (some (g,w))=some (b == w):=by
 rcases hr.tm g with h|h
 ·rw[e]at h;cases h
 ·rw[e]at h
  simp only[J8,h,MM]
theorem AnC (hr:RX σ tm M st) {g:Nat} {w:Bool} (e:tg tm g = .g8 []):J8 st (some (g,w))=some false:=by
 rcases hr.tm g with h|h
 ·rw[e]at h;cases h
 ·rw[e]at h
  simp only[J8,h,OC,List.map_nil]
theorem Qn {key:Nat} : ∀ (tm:Tm) (j:Nat),tg (Ji key tm) j = .any\/tg (Ji key tm) j=tg tm j
 | [],_=>Or.inl rfl
 | (i,v)::r,j=>by
  simp only[Ji];cases hc:ZP key v<;>cases hb:Nat.beq j i;all_goals simp only[cond_true,cond_false,tg,hb]
  ·exact Qn r j
  ·exact Or.inr trivial
  ·exact Qn r j
  ·exact Or.inl trivial
theorem ArK {v:AV} {K:Tm->Prop} (h:xk v tm K) : ∃ cn,(∀ j,tg cn j = .any\/tg cn j=tg tm j)/\K cn:=by
 unfold xk at h;split at h
 ·rw[fD]at h
  exact ⟨_,λ j=>Qn _ j,h⟩
 ·exact ⟨_,λ j=>Or.inr rfl,h⟩
theorem Xr {k:List It} {Q:Tm->Mem->Prop} : ∀ {l:List AI} {K:Tm->Mem->Prop} {tm:Tm} {M:Mem},XO L l K tm M->(∀ cn M',K cn M'->AJ L k cn M' Q)->Xq L l k tm M Q
 | [],K,tm,M,h,hk=>λ σ st hr=>AhY.2 (hk tm M h σ st hr)
 | o::l,K,tm,M,h,hk=>by
  intro σ st hr;have h:XI L o (XO L l) K tm M:=h;have ih : ∀ cn M',XO L l K cn M'->Xq L l k cn M' Q:=λ cn M' h'=>Xr h' hk
  have some_ : ∀ (d:Nat) (op:H0) (g:Option (Nat × Bool)) (b7:List Nat),J8 st g=some true->XE L tm M b7 (λ v M=>XO L l K ((d,v)::tm) M) op->AO L (⟨some d,op,g,b7⟩::l) k st (SQ Q):=by
   intro d op g b7 hg hx;refine sN hr hx hg ?_;intro σ' v v' M' n6 h1 h2 h3;exact ih _ _ h1 σ' _ (h3.put d h2)
  have Hj : ∀ (d:Nat) (u:AV) (op:H0) (b7:List Nat),XE L tm M b7 (λ v M=>xk u tm λ tm=>XO L l K ((d,v)::tm) M) op->AO L (⟨some d,op,none,b7⟩::l) k st (SQ Q):=by
   intro d u op b7 hx;refine sN hr hx rfl ?_;intro σ' v v' M' n6 h1 h2 h3;obtain ⟨cn,g1,g2⟩:=ArK h1;exact ih _ _ g2 σ' _ ((show RX σ' cn M' ⟨st.tm,n6⟩ from ⟨λ j=>(g1 j).elim Or.inl λ e=>by rw[e];exact h3.tm j,h3.sat⟩).put d h2)
  have none_ : ∀ (op:H0) (g:Option (Nat × Bool)) (b7:List Nat),J8 st g=some true->XE L tm M b7 (λ_ M=>XO L l K tm M) op->AO L (⟨none,op,g,b7⟩::l) k st (SQ Q):=by
   intro op g b7 hg hx;refine sN hr hx hg ?_;intro σ' v v' M' n6 h1 h2 h3;exact ih _ _ h1 σ' _ h3
  have Ep : ∀ (d:Option Nat) (op:H0) (g:Option (Nat × Bool)) (b7:List Nat),J8 st g=some false->(match d with|some d=>XO L l K ((d,.g8 [])::tm) M|none=>XO L l K tm M)->AO L (⟨d,op,g,b7⟩::l) k st (SQ Q):=by
   intro d op g b7 hg hx;rw[Ah0 hg];cases d with
   | none=>exact ih _ _ hx σ _ hr
   | some d=>exact ih _ _ hx σ _ (hr.put d rfl)
  obtain ⟨d,op,g,b7⟩:=o;cases g with
  | none =>
   cases d with
   | none=>exact none_ op none b7 rfl h
   | some d =>
    cases op with
    | app s z b x y=>exact Hj d (ex tm x) (.app s z b x y) b7 h
    | _=>exact some_ d _ none b7 rfl h
  | some gw =>
   obtain ⟨g,w⟩:=gw;have h:(match tg tm g with
    | .bool b=>fB (b == w) λ c=>match c,d with
     | true,some d=>XE L tm M b7 (λ v M=>XO L l K ((d,v)::tm) M) op
     | true,none=>XE L tm M b7 (λ_ M=>XO L l K tm M) op
     | false,some d=>XO L l K ((d,.g8 [])::tm) M
     | false,none=>XO L l K tm M
    | .g8 []=>match d with
     | some d=>XO L l K ((d,.g8 [])::tm) M
     | none=>XO L l K tm M
    | _=>False):=by cases d<;>cases op<;>exact h
   split at h
   ·rename_i b e
    rw[Z3]at h;have hg:=AnB hr (w:=w) e;cases hb:(b == w)<;>rw[hb]at h hg
    ·exact Ep d op _ b7 hg (by cases d<;>exact h)
    ·cases d with
     | none=>exact none_ op _ b7 hg h
     | some d=>exact some_ d op _ b7 hg h
   ·rename_i e
    exact Ep d op _ b7 (AnC hr e) (by cases d<;>exact h)
   ·exact h.elim
theorem sR {Q:Tm->Mem->Prop} : ∀ {n:Nat} {k:List It} {tm:Tm} {M:Mem},XK L Q n k tm M->AJ L k tm M Q
 | 0,k,tm,M,h=>h
 | n+1,[],tm,M,h=>λ σ st hr=>AhD.2 ⟨σ,tm,M,hr,h⟩
 | n+1,it::k,tm,M,h=>by
  have h:XS L Q (XK L Q n) (it::k) tm M:=h;have ih : ∀ k tm M,XK L Q n k tm M->AJ L k tm M Q:=λ k tm M h=>sR h
  intro σ st hr;cases it with
  | c9 id=>exact Ahv.2 (ih _ _ _ h σ st hr)
  | rm ts ss =>
   simp only[XS,Anb,fD]at h;cases ss with
   | cons s r=>exact h.elim
   | nil =>
    refine Ahz.2 (ih _ _ _ h σ _ ⟨λ j => ?_,hr.sat⟩);rw[mA,hJ,Yb,tE,Bool.false_or];cases hc:ts.contains j
    ·simp only[Bool.false_eq_true,if_false,cond_false]
     exact hr.tm j
    ·exact Or.inl rfl
  | lp c=>exact h σ st hr
  | code c =>
   cases c with
   | skip=>exact AhN.2 (ih _ _ _ h σ st hr)
   | ops l d=>exact AhE.2 (Xr h (λ cn M' h'=>ih _ _ _ h') σ st hr)
   | dr c ts ss=>exact Ahy.2 (ih _ _ _ h σ st hr)
   | scope c=>exact AhG.2 (ih _ _ _ h σ st hr)
   | seq a b=>exact AhM.2 (ih _ _ _ h σ st hr)
   | cond x a b =>
    simp only[XS]at h;split at h
    ·rename_i b' e
     rw[Z3]at h;rw[Ahx (hr.ev e (by intro e;cases e))];cases b'
     ·simpa using ih _ _ _ h σ st hr
     ·simpa using ih _ _ _ h σ st hr
    ·exact h.elim
   | block id c=>exact Ahw.2 (ih _ _ _ h σ st hr)
   | loop c=>exact AhB.2 (Zd.1 (h σ st hr))
   | exit id =>
    simp only[XS]at h;split at h
    ·rename_i k' e
     exact (AhA e).2 (ih _ _ _ h σ st hr)
    ·exact h.elim
   | ret=>exact AhF.2 ⟨σ,tm,M,hr,h⟩
theorem Ap1 (hr:RX σ tm M st) {r:O2} {K:AV->Prop} (h:lG tm M r K) : ∃ v,JT st r=some (C8 σ v)/\K v/\C8 σ v=DK σ v:=by
 cases r with
 | tmp t =>
  simp only[lG]at h;obtain ⟨h1,h2,h3⟩:=Adn (σ:=σ) h;refine ⟨_,?_,h3,h2⟩;rcases hr.tm t with e|e
  ·exact absurd e h1
  ·simp only[JT,e]
   cases hv:tg tm t<;>rw[hv]at h h1<;>first|rfl|exact (h:False).elim
 | cell t agg n =>
  simp only[lG]at h;split at h
  ·rename_i key i j e
   split at h
   ·rename_i s cs hm
    cases hi:Nat.beq i 0<;>simp only[hi,cond_true,cond_false]at h;obtain rfl:=EF.1 hi;split at h
    ·rename_i ds hp
     rw[MT]at h;rcases hr.tm t with e'|e'
     ·rw[e]at e';cases e'
     ·have hs:=hr.sat.site _ _ _ hm
      have bh:=hr.sat.c9 _ _ _ (IJ hm);rw[hs]at bh;have flat : ∀ v,P4 agg (ds.map (C2 σ))=some (C8 σ v)->JT st (.cell t agg n)=some (C8 σ v):=by
       intro v hv;simp only[JT,e',e,IW,BD.uf,BD.get,hs,bh,C3.c9,List.getElem?_cons_zero,qE hp,hv]
      cases agg
      ·simp only[vk]at h
       split at h
       ·rename_i c
        obtain ⟨_,h1,h2⟩:=Ado (σ:=σ) h;refine ⟨c,flat c (by rw[h1];rfl),h2,?_⟩;rw[h1];cases c<;>first|rfl|exact (h:False).elim
       ·exact h.elim
      ·exact ⟨.agg ds,flat _ rfl,h,rfl⟩
    ·exact h.elim
   ·exact h.elim
  ·exact h.elim
theorem yR (hr:RX σ tm M st) : ∀ {l:List O2} {K:List AV->Prop},qJ tm M l K -> ∃ vs,l.mapM (JT st)=some (vs.map (C8 σ))/\K vs/\vs.map (C8 σ)=vs.map (DK σ)
 | [],K,h=>⟨[],rfl,h,rfl⟩
 | r::l,K,h=>by
  obtain ⟨v,h1,h2,h3⟩:=Ap1 hr (show lG tm M r λ v=>qJ tm M l λ vs=>K (v::vs) from h);obtain ⟨vs,h4,h5,h6⟩:=yR hr h2;exact ⟨v::vs,by rw[List.mapM_cons,h1,h4];rfl,h5,by rw[List.map_cons,List.map_cons,h3,h6]⟩
theorem AfZ (hs:NP σ st.own M) {q:Bool} : ∀ {l:List AV} {K:List AV->Prop},zK q M l K -> ∃ l',(l.map (C8 σ)).mapM (F8 st.own q)=some l'/\K l' /\ ∀ v∈l,C8 σ v=DK σ v
 | [],K,h=>⟨[],rfl,h,λ v hv=>by cases hv⟩
 | v::r,K,h=>by
  obtain ⟨v',h1,h2,_,h0⟩:=qZ hs (show Y4 q M [] v λ v'=>zK q M r λ r'=>K (v'::r') from h);obtain ⟨l',h3,h4,h5⟩:=AfZ hs h2;refine ⟨v'::l',?_,h4,λ u hu => ?_⟩
  ·rw[List.map_cons,List.mapM_cons,show F8 st.own q (C8 σ v)=some v' from h1,h3];rfl
  ·rcases List.mem_cons.1 hu with rfl|hu
   ·exact h0
   ·exact h5 u hu
theorem AqJ {own:BD} {q:Bool} {v v':AV} (h:F8 own q v=some v'):aG own q v=some v':=by
 cases v with
 | g8 vs=>simp [F8,snap]at h
 | _=>exact h
theorem AoQ {f:AV->Option AV} {x y:AV} {r l':List AV} (h:(x::y::r).mapM f=some l') : ∃ a b c,l'=a::b::c:=by
 rw[List.mapM_cons,List.mapM_cons]at h;cases hx:f x with
 | none=>rw[hx]at h;cases h
 | some a =>
  cases hy:f y with
  | none=>rw[hx,hy]at h;cases h
  | some b =>
   cases hr:r.mapM f with
   | none=>rw[hx,hy,hr]at h;cases h
   | some c =>
    rw[hx,hy,hr]at h;exact ⟨a,b,c,(Option.some.inj h).symm⟩
theorem Yw {fn:AFn} {r:AV} (hr:RX σ tm M st) (h:YB fn r tm M):iS fn r st:=by
 unfold YB at h;obtain ⟨vs,h1,h2,h3⟩:=yR hr h;obtain ⟨l',h4,h5,h6⟩:=AfZ hr.sat h2;unfold iS;rw[h1,Option.map_some,Option.bind_some];match vs,l',h4,h5 with
 | [],l',h4,h5 =>
  obtain rfl:=Option.some.inj h4;obtain ⟨e,hc⟩:=h5;exact ⟨by rw[<-e];rfl,hc⟩
 | [v],l',h4,h5 =>
  rw[List.map_cons,List.map_nil,List.mapM_cons]at h4;cases hv:F8 st.own false (C8 σ v) with
  | none=>rw[hv]at h4;cases h4
  | some v' =>
   rw[hv]at h4;obtain rfl:=Option.some.inj h4;obtain ⟨e,hc⟩:=h5;exact ⟨by rw[<-e];exact AqJ hv,hc⟩
 | v::u::w,l',h4,h5 =>
  obtain ⟨a,b,c,rfl⟩:=AoQ (show List.mapM (F8 st.own false) (C8 σ v::C8 σ u::w.map (C8 σ))=some l' from h4);obtain ⟨e,hc⟩:=h5;refine ⟨?_,hc⟩;rw[<-e];have h4:List.mapM (F8 st.own false) (C8 σ v::C8 σ u::w.map (C8 σ))=some (a::b::c):=h4;show Option.map AV.g8 (List.mapM (F8 st.own false) (C8 σ v::C8 σ u::w.map (C8 σ)))=_;rw[h4];rfl
def ZT:AV->Bool
 | .agg cs=>H9 cs
 | v=>ya v
def PX:List AV->Bool
 | []=>true
 | v::r=>bif ZT v then PX r else false
theorem oA {v:AV} (h:ZT v=true):C8 σ v=v:=by
 cases v with
 | agg cs=>simp only[ZT]at h;simp only[C8,DK,OQ h]
 | _=>first|rfl|cases h
theorem jJ {σ:JX} : ∀ {vs:List AV} {i:Nat},PX vs=true -> ∀ j,g7 (FV i vs) j=C8 σ (g7 (FV i vs) j)
 | [],_,_,_=>rfl
 | v::r,i,h,j=>by
  simp only[PX]at h;cases hv:ZT v<;>simp only[hv,cond_true,cond_false]at h
  ·cases h
  ·simp only[An6,mD]
   split
   ·exact (oA hv).symm
   ·exact jJ h j
theorem KR.x {f:Nat} {fn:AFn} {vs:List AV} {r:AV} (hL:L f=some fn) (hp:Nat.beq vs.length fn.cr=true) (hd:PX vs=true) (h:AJ L [.code fn.body] (FV 0 vs) [] (YB fn r)):KR L f vs r:=by
 refine KR.fwd hL (EF.1 hp) (AhC (h (λ_ _=>(0,0)) ⟨FV 0 vs,BD.emp⟩ ⟨λ j=>Or.inr ?_,?_⟩) ?_)
 ·rw[PM];exact jJ hd j
 ·exact ⟨(λ_ _ _ e=>by cases e),(λ_ _ _ e=>by simp [b9,c4]at e),(λ_ _ _ e=>by simp [b9,c4]at e),(λ_ _ _ _ _ _ e=>by simp [b9,c4]at e),(λ_ _ _ e=>by simp [b9,c4]at e)⟩
 ·rintro s ⟨σ,tm,M,hr,hq⟩
  exact Yw hr hq
theorem Ev.x {f:Nat} {fn:AFn} {vs:List AV} {r:AV} (hL:L f=some fn) (hp:Nat.beq vs.length fn.cr=true) (hd:PX vs=true) (h:AJ L [.code fn.body] (FV 0 vs) [] (YB fn r)) (hs:fn.uh=false:=by rfl):Ev L f vs r:=(KR.x hL hp hd h).ev hL hs
def KW:List (Nat × Nat)->Nat->Nat
 | [],k=>k
 | (a,b)::r,k=>bif Nat.beq k a then b else KW r k
def qM (τ:List (Nat × Nat)):AV->AV
 | .row k t z o n => .row (KW τ k) t z o n
 | .ptr k t i j => .ptr (KW τ k) t i j
 | v=>v
def aE (τ:List (Nat × Nat)):List AV->List AV
 | []=>[]
 | v::r=>qM τ v::aE τ r
def gQ (τ:List (Nat × Nat)):AV->AV
 | .agg cs => .agg (aE τ cs)
 | .fn p f g cs => .fn p f g (aE τ cs)
 | v=>qM τ v
def qO (τ:List (Nat × Nat)):List AV->List AV
 | []=>[]
 | v::r=>gQ τ v::qO τ r
def qN (τ:List (Nat × Nat)):AV->AV
 | .g8 cs => .g8 (qO τ cs)
 | v=>gQ τ v
def qP (τ:List (Nat × Nat)):List (List AV)->List (List AV)
 | []=>[]
 | v::r=>aE τ v::qP τ r
def PJ (τ:List (Nat × Nat)):C3->C3
 | .bx cs => .bx (aE τ cs)
 | .rw z es => .rw z es
 | .bs z es => .bs z (qP τ es)
 | .mx rows => .mx rows
 | .hx i v rows => .hx i v rows
 | .vw w rows => .vw w rows
variable {τ:List (Nat × Nat)}
theorem lH : ∀ l:List AV,aE τ l=l.map (qM τ)
 | []=>rfl
 | v::r=>by rw[aE,lH r];rfl
theorem Afv : ∀ l:List AV,qO τ l=l.map (gQ τ)
 | []=>rfl
 | v::r=>by rw[qO,Afv r];rfl
theorem rJ (v:AV):C2 (λ k t=>σ (KW τ k) t) v=C2 σ (qM τ v):=by cases v<;>rfl
theorem Qd (v:AV):DK (λ k t=>σ (KW τ k) t) v=DK σ (gQ τ v):=by
 cases v with
 | agg cs=>simp only[DK,gQ,lH,List.map_map];exact congrArg AV.agg (List.map_congr_left λ v _=>rJ v)
 | fn p f g cs=>simp only[DK,gQ,lH,List.map_map];exact congrArg (AV.fn p f g) (List.map_congr_left λ v _=>rJ v)
 | _=>rfl
theorem AqP (v:AV):C8 (λ k t=>σ (KW τ k) t) v=C8 σ (qN τ v):=by
 cases v with
 | g8 cs=>simp only[C8,qN,Afv,List.map_map];exact congrArg AV.g8 (List.map_congr_left λ v _=>Qd v)
 | agg cs=>exact Qd (.agg cs)
 | fn p f g cs=>exact Qd (.fn p f g cs)
 | _=>rfl
theorem Afw : ∀ l:List (List AV),qP τ l=l.map (aE τ)
 | []=>rfl
 | v::r=>by rw[qP,Afw r];rfl
theorem kP {k:Nat} : ∀ (rows:List (Option (Nat × List (List AV)))) (i:Nat),FC (λ k t=>σ (KW τ k) t) k i rows=FC σ (KW τ k) i rows
 | [],i=>rfl
 | none::r,i=>by rw[FC,FC,kP r]
 | some (z,es)::r,i=>by rw[FC,FC,kP r]
theorem Ajw (c:C3) (k:Nat):c.c9 (λ k t=>σ (KW τ k) t) k=(PJ τ c).c9 σ (KW τ k):=by
 cases c with
 | bx cs =>
  simp only[C3.c9,PJ,lH,List.length_map,List.map_map];rw[List.map_congr_left λ v _=>rJ v];rfl
 | rw z es=>rfl
 | bs z es =>
  simp only[C3.c9,PJ,Afw,List.map_map];congr 1;refine List.map_congr_left λ cs _ => ?_
  simp only[Function.comp,lH,List.map_map];exact List.map_congr_left λ v _=>rJ v
 | mx rows=>simp only[C3.c9,PJ,kP]
 | hx i v rows=>simp only[C3.c9,PJ,kP]
 | vw w rows=>simp only[C3.c9,PJ,kP]
def Ao (k s:Nat) (c:C3):Mem->Mem
 | []=>[(k,s,c)]
 | (j,s',c')::r=>bif Nat.beq k j then (k,s,c)::r else (j,s',c')::Ao k s c r
def wm:Mem->Mem
 | []=>[]
 | (k,s,c)::r=>Ao k s c (wm r)
def fW:Mem->(Mem->Prop)->Prop
 | [],K=>K []
 | (k,s,c)::r,K=>fW r λ r'=>fM (Ao k s c r') K
theorem pM : ∀ (M:Mem) (K:Mem->Prop),fW M K=K (wm M)
 | [],_=>rfl
 | (k,s,c)::r,K=>by rw[fW,pM r,YP];rfl
theorem AeD (k s:Nat) (c:C3) (j:Nat) : ∀ M:Mem,c4 (Ao k s c M) j=bif Nat.beq j k then some (s,c) else c4 M j
 | []=>rfl
 | (i,s',c')::r=>by
  simp only[Ao];cases hk:Nat.beq k i
  ·simp only[cond_false,c4,AeD k s c j r]
   cases hj:Nat.beq j i<;>cases hjk:Nat.beq j k<;>simp only[cond_true,cond_false];exact absurd ((EF.1 hjk).symm.trans (EF.1 hj)) (J6.1 hk)
  ·obtain rfl:=EF.1 hk
   simp only[cond_true,c4];cases Nat.beq j k<;>rfl
theorem fX (j:Nat) : ∀ M:Mem,c4 (wm M) j=c4 M j
 | []=>rfl
 | (k,s,c)::r=>by simp only[wm,AeD,fX j r,c4]
theorem pT (k t:Nat):b9 (wm M) k t=b9 M k t:=by simp only[b9,fX]
def Dd (τ:List (Nat × Nat)) (M:Mem):List (Nat × Nat × C3)->List (Option (Nat × C3))
 | []=>[]
 | (k,_,_)::r=>c4 M (KW τ k)::Dd τ M r
def De (τ:List (Nat × Nat)):List (Nat × Nat × C3)->List (Option (Nat × C3))
 | []=>[]
 | (_,s,c)::r=>some (s,PJ τ c)::De τ r
def Qa (tm:Tm):Tm->List AV
 | []=>[]
 | (j,_)::r=>tg tm j::Qa tm r
def Qb (τ:List (Nat × Nat)):Tm->List AV
 | []=>[]
 | (_,v)::r=>qN τ v::Qb τ r
def pW:List Nat->Bool
 | []=>true
 | k::r=>bif O9 k r then false else pW r
def keys (τ:List (Nat × Nat)):Mem->List Nat
 | []=>[]
 | (k,_,_)::r=>KW τ k::keys τ r
theorem AeB : ∀ {M':Mem} {M:Mem},Dd τ M M'=De τ M' -> ∀ k s c,c4 M' k=some (s,c)->c4 M (KW τ k)=some (s,PJ τ c)
 | [],_,_,_,_,_,e=>by cases e
 | (i,s',c')::r,M,h,k,s,c,e=>by
  simp only[Dd,De,List.cons.injEq]at h;simp only[c4]at e;cases hb:Nat.beq k i<;>simp only[hb,cond_true,cond_false]at e
  ·exact AeB h.2 k s c e
  ·simp only[Option.some.injEq,Prod.mk.injEq]at e
   obtain ⟨rfl,rfl⟩:=e;rw[EF.1 hb];exact h.1
theorem xH : ∀ {M:Mem} {k s:Nat} {c:C3},c4 M k=some (s,c)->O9 (KW τ k) (keys τ M)=true
 | (i,s',c')::r,k,s,c,e=>by
  simp only[c4]at e;simp only[keys,O9];cases hb:Nat.beq k i<;>simp only[hb,cond_true,cond_false]at e
  ·rw[xH e];cases Nat.beq (KW τ k) (KW τ i)<;>rfl
  ·rw[EF.1 hb];simp
theorem AeU : ∀ {M:Mem},pW (keys τ M)=true -> ∀ {k k' s s':Nat} {c c':C3},c4 M k=some (s,c)->c4 M k'=some (s',c')->KW τ k=KW τ k'->k=k'
 | [],_,_,_,_,_,_,_,e,_,_=>by cases e
 | (i,s0,c0)::r,h,k,k',s,s',c,c',e,e',hk=>by
  simp only[keys,pW]at h;cases hm:O9 (KW τ i) (keys τ r)<;>simp only[hm,cond_true,cond_false]at h
  ·simp only[c4]at e e'
   cases hb:Nat.beq k i<;>cases m4:Nat.beq k' i<;>simp only[hb,m4,cond_true,cond_false]at e e'
   ·exact AeU h e e' hk
   ·obtain rfl:=EF.1 m4
    have:=xH (τ:=τ) e
    rw[hk,hm]at this;cases this
   ·obtain rfl:=EF.1 hb
    have:=xH (τ:=τ) e'
    rw[<-hk,hm]at this;cases this
   ·exact (EF.1 hb).trans (EF.1 m4).symm
  ·cases h
theorem AgF : ∀ {cn:Tm} {tm:Tm},Qa tm cn=Qb τ cn -> ∀ j,tg cn j = .any\/tg tm j=qN τ (tg cn j)
 | [],_,_,_=>Or.inl rfl
 | (i,v)::r,tm,h,j=>by
  simp only[Qa,Qb,List.cons.injEq]at h;simp only[tg];cases hb:Nat.beq j i<;>simp only[cond_true,cond_false]
  ·exact AgF h.2 j
  ·rw[EF.1 hb];exact Or.inr h.1
def ak (ts:List Nat) (tm:Tm):Tm:=match ts with
 | []=>tm
 | t::ts=>Aq (mask 0 (t::ts)) tm
def PR (τ:List (Nat × Nat)) (tm:Tm) (M:Mem) (cn:Tm) (M':Mem):Prop :=
 fT (Aq 0 cn) λ l=>fW M' λ m=>Qa tm l=Qb τ l/\Dd τ M m=De τ m/\pW (keys τ m)=true
theorem DP {k:List It} {cn:Tm} {M':Mem} {Q:Tm->Mem->Prop} (τ:List (Nat × Nat)) (he:PR τ tm M cn M') (h:AJ L k cn M' Q):AJ L k tm M Q:=by
 unfold PR at he;rw[fD,pM]at he;obtain ⟨ht,hm,hn⟩:=he;intro σ st hr;have hg : ∀ k s c,c4 M' k=some (s,c)->c4 M (KW τ k)=some (s,PJ τ c):=λ k s c e=>AeB hm k s c (by rw[fX];exact e)
 have Lh : ∀ k t c,b9 M' k t=some c->b9 M (KW τ k) t=some (PJ τ c):=by
  intro k t c e;obtain ⟨s,c0,g1,g2,g3⟩:=NE e;have:=hg k s c0 g1
  cases t with
  | zero=>rw[g2 rfl];exact IJ this
  | succ i =>
   obtain ⟨rows,z,es,(rfl|⟨a,v,rfl⟩)|⟨w,rfl⟩,hr,rfl⟩:=g3 i rfl
   ·simp [b9,this,PJ,hr]
   ·simp [b9,this,PJ,hr]
   ·simp [b9,this,PJ,hr]
 refine h (λ k t=>σ (KW τ k) t) st ⟨λ j => ?_,⟨?_,?_,?_,?_,?_⟩⟩
 ·have:=AgF ht j
  rw[mA,tE,cond_false]at this;rcases this with e|e
  ·exact Or.inl e
  ·rcases hr.tm j with e'|e'
   ·left
    rw[e']at e;cases hv:tg cn j<;>rw[hv]at e<;>first|rfl|cases e
   ·right
    rw[e',e,AqP]
 ·intro k s c e;exact hr.sat.site _ _ _ (hg k s c e)
 ·intro k t c e;rw[Ajw];exact hr.sat.c9 _ _ _ (Lh k t c e)
 ·intro k t c e;exact hr.sat.old _ _ _ (Lh k t c e)
 ·intro k t k' t' c c' e e' hk
  obtain ⟨q1,q2⟩:=hr.sat.inj _ _ _ _ _ _ (Lh _ _ _ e) (Lh _ _ _ e') hk;obtain ⟨s,c0,g,_⟩:=NE e;obtain ⟨s',c0',g',_⟩:=NE e';exact ⟨AeU hn (by rw[fX];exact g) (by rw[fX];exact g') q1,q2⟩
 ·intro k t c e hw
  exact hr.sat.low _ _ _ (Lh k t c e) (by cases c<;>exact hw)
theorem CZ {k:List It} {cn:Tm} {M':Mem} {Q:Tm->Mem->Prop} (τ:List (Nat × Nat)) (h:AJ L k cn M' Q) (he:PR τ tm M cn M':=by (conv=>whnf);exact ⟨rfl,rfl,rfl⟩):AJ L k tm M Q:=DP τ he h
theorem Zb {k:List It} {Q:Tm->Mem->Prop} (h:AJ L k (Aq 0 tm) (wm M) Q):AJ L k tm M Q:=by
 intro σ st hr;refine h σ st ⟨λ j => ?_,⟨?_,?_,?_,?_,?_⟩⟩
 ·rw[mA,tE,cond_false];exact hr.tm j
 ·intro k s c e;rw[fX]at e;exact hr.sat.site _ _ _ e
 ·intro k t c e;rw[pT]at e;exact hr.sat.c9 _ _ _ e
 ·intro k t c e;rw[pT]at e;exact hr.sat.old _ _ _ e
 ·intro k t k' t' c c' e e' hk
  rw[pT]at e e';exact hr.sat.inj _ _ _ _ _ _ e e' hk
 ·intro k t c e hw;rw[pT]at e;exact hr.sat.low _ _ _ e hw
def Ap (k:Nat) (c:C3):Mem->Mem
 | []=>[]
 | (j,s,c')::r=>bif Nat.beq k j then (j,s,c)::r else (j,s,c')::Ap k c r
theorem pP {k j s:Nat} {c c':C3} : ∀ {M:Mem},c4 (Ap k c M) j=some (s,c') -> ∃ c0,c4 M j=some (s,c0)/\(c0=c'\/(j=k/\c'=c))
 | [],e=>by cases e
 | (i,s0,c0)::r,e=>by
  simp only[Ap]at e;cases hk:Nat.beq k i<;>simp only[hk,cond_true,cond_false,c4]at e ⊢
  ·cases hj:Nat.beq j i<;>simp only[hj,cond_true,cond_false]at e ⊢
   ·exact pP e
   ·exact ⟨c',e,Or.inl rfl⟩
  ·cases hj:Nat.beq j i<;>simp only[hj,cond_true,cond_false]at e ⊢
   ·exact ⟨c',e,Or.inl rfl⟩
   ·simp only[Option.some.injEq,Prod.mk.injEq]at e
    obtain ⟨rfl,rfl⟩:=e;exact ⟨c0,rfl,Or.inr ⟨(EF.1 hj).trans (EF.1 hk).symm,rfl⟩⟩
theorem Ahs {kk:List It} {Q:Tm->Mem->Prop} (k s:Nat) (e:c4 M k=some (s,.rw 1 [])) (h:AJ L kk tm (Ap k (.mx []) M) Q):AJ L kk tm M Q:=by
 intro σ st hr;have hg : ∀ j t c,b9 (Ap k (.mx []) M) j t=some c -> ∃ c0,b9 M j t=some c0/\c0.c9 σ j=c.c9 σ j:=by
  intro j t c g;obtain ⟨s1,c1,g1,g2,g3⟩:=NE g;obtain ⟨c0,q1,q2⟩:=pP g1;cases t with
  | zero =>
   rw[g2 rfl];rcases q2 with rfl|⟨rfl,rfl⟩
   ·exact ⟨_,IJ q1,rfl⟩
   ·rw[e]at q1
    simp only[Option.some.injEq,Prod.mk.injEq]at q1;obtain ⟨rfl,rfl⟩:=q1;exact ⟨_,IJ e,rfl⟩
  | succ i =>
   obtain ⟨rows,z,es,(rfl|⟨a,v,rfl⟩)|⟨w,rfl⟩,Gw,rfl⟩:=g3 i rfl
   ·rcases q2 with rfl|⟨rfl,h0⟩
    ·exact ⟨.rw z es,by simp [b9,q1,Gw],rfl⟩
    ·obtain rfl:rows=[]:=by simpa using h0
     simp at Gw
   ·rcases q2 with rfl|⟨rfl,h0⟩
    ·exact ⟨.rw z es,by simp [b9,q1,Gw],rfl⟩
    ·cases h0
   ·rcases q2 with rfl|⟨rfl,h0⟩
    ·exact ⟨.rw z es,by simp [b9,q1,Gw],rfl⟩
    ·cases h0
 refine h σ st ⟨hr.tm,⟨?_,?_,?_,?_,?_⟩⟩
 ·intro j s' c g
  obtain ⟨c0,q1,_⟩:=pP g;exact hr.sat.site _ _ _ q1
 ·intro j t c g
  obtain ⟨c0,q1,q2⟩:=hg j t c g;rw[<-q2];exact hr.sat.c9 _ _ _ q1
 ·intro j t c g
  obtain ⟨c0,q1,_⟩:=hg j t c g;exact hr.sat.old _ _ _ q1
 ·intro j t j' t' c c' g g' hj
  obtain ⟨_,q1,_⟩:=hg j t c g;obtain ⟨_,q2,_⟩:=hg j' t' c' g';exact hr.sat.inj _ _ _ _ _ _ q1 q2 hj
 ·intro j t c g hw
  cases t with
  | zero =>
   obtain ⟨s1,c1,g1,g2,g3⟩:=NE g;obtain ⟨c0,q1,q2⟩:=pP g1;have g2:=g2 rfl;subst g2;rcases q2 with rfl|⟨rfl,rfl⟩
   ·exact hr.sat.low _ _ _ (IJ q1) hw
   ·exact hr.sat.low _ _ _ (IJ e) rfl
  | succ t =>
   obtain ⟨c0,q1,_⟩:=hg _ _ _ g;exact hr.sat.low _ _ _ q1 (xM q1)
theorem JN {k:List It} {c:DD} {Q:Tm->Mem->Prop} (h:AJ L (.code c :: .lp c::k) tm M Q):AJ L (.lp c::k) tm M Q:=λ σ st hr=>Zd.2 (h σ st hr)
theorem iH {α:Type} {k:List It} {c:DD} {Q:Tm->Mem->Prop} (m:α->Nat) (P:α->Prop) (vs:α->Tm) (Ms:α->Mem) (ts:List Nat) (τ:List (Nat × Nat)) (a:α)
  (he:PR τ tm M (vs a++ak ts tm) (Ms a++M)) (hp:P a)
  (step : ∀ a,P a->(∀ a',m a'<m a->P a'->AJ L (.lp c::k) (vs a'++ak ts tm) (Ms a'++M) Q)->AJ L (.code c :: .lp c::k) (vs a++ak ts tm) (Ms a++M) Q):AJ L (.lp c::k) tm M Q:=by
 have key : ∀ n a,m a<n->P a->AJ L (.lp c::k) (vs a++ak ts tm) (Ms a++M) Q:=by
  intro n;induction n with
  | zero=>intro a h;omega
  | succ n ih =>
   intro a ha hp;exact JN (step a hp λ a' h1 h2=>ih a' (by omega) h2)
 exact DP τ he (key (m a+1) a (by omega) hp)
end
end Go.b8
namespace Go.b8
section
variable {α:Type} {enc:α->List AV} {l:List α} {L:Lib}
theorem A9 {p q A B:Prop} (h1:p->A) (h2:q->B):A3 p q A B:=⟨h1,h2⟩
theorem B5 {p A:Prop} (h1:p) (h2:A):BU p A:=⟨h1,h2⟩
section
variable {K:AV->Prop} {a b:Int} {k k':IntKind} {op:BinOp}
theorem mP {v:AV} (h:GF op k a k' b=some v) (hk:K v):AU op k a k' b K:=⟨v,h,hk⟩
theorem BG (hr : -9223372036854775808<=a+b/\a+b<=9223372036854775807) (hk:K (.int .i64 (a+b))):AU .add .i64 a .i64 b K:=⟨_,by simp only[GF,if_true];rw[IntWalk.i64_in _ hr],hk⟩
theorem DQ (hr : -9223372036854775808<=a-b/\a-b<=9223372036854775807) (hk:K (.int .i64 (a-b))):AU .sub .i64 a .i64 b K:=⟨_,by simp only[GF,if_true];rw[IntWalk.i64_in _ hr],hk⟩
theorem I8 (hr : -9223372036854775808<=a*b/\a*b<=9223372036854775807) (hk:K (.int .i64 (a*b))):AU .mul .i64 a .i64 b K:=⟨_,by simp only[GF,if_true];rw[IntWalk.i64_in _ hr],hk⟩
theorem IY (h:0<=b/\b<=62) (hk:1<=pw b->pw b<=4611686018427387904->K (.int .i64 (pw b))):AU .shl .i64 1 k' b K:=⟨_,Aqz h,hk (HY b) (kZ h.2)⟩
theorem Yo (h:0<=b/\b<=62) (hk:0<=a%pw b->a%pw b<pw b->K (.int .i64 (a%pw b))):AU .and .i64 a .i64 (pw b-1) K:=⟨_,Xy rfl h,hk (Int.emod_nonneg _ (by have:=HY b;omega)) (Int.emod_lt_of_pos _ (by have:=HY b;omega))⟩
theorem WW (hb:0<b) (h1:(0<=a\/a%b=0)->0<=a%b->a%b<b->K (.int .i64 (a%b))) (h2:a<0->a%b≠0->0<=a%b->a%b<b->K (.int .i64 (a%b-b))):AU .rem .i64 a .i64 b K:=by
 have h5:0<=a%b:=Int.emod_nonneg _ (by omega);have h6:a%b<b:=Int.emod_lt_of_pos _ hb;have e:GF .rem .i64 a .i64 b=some (.int .i64 (a.tmod b)):=by simp only[GF];rw[if_pos ⟨trivial,by omega⟩]
 by_cases hc:0<=a\/a%b=0
 ·rw[AgG hb,if_pos hc]at e
  exact ⟨_,e,h1 hc h5 h6⟩
 ·rw[AgG hb,if_neg hc]at e
  exact ⟨_,e,h2 (by omega) (by omega) h5 h6⟩
theorem PT (hb:0<b) (ha : -9223372036854775808<=a/\a<=9223372036854775807) (h1:(0<=a\/a%b=0)->K (.int .i64 (a/b))) (h2:a<0->a%b≠0->K (.int .i64 (a/b+1))):AU .quo .i64 a .i64 b K:=by
 have hr:=Alv (m:=b) (by omega) ha;have e:GF .quo .i64 a .i64 b=some (.int .i64 (IntKind.i64.wrap (a.tdiv b))):=by simp only[GF];rw[if_pos ⟨trivial,by omega⟩]
 by_cases hc:0<=a\/a%b=0
 ·rw[AgC hb,if_pos hc,IntWalk.i64_in _ hr]at e
  exact ⟨_,e,h1 hc⟩
 ·have AJK:a/b<0:=Int.ediv_neg_of_neg_of_pos (by omega) hb
  rw[AgC hb,if_neg hc,IntWalk.i64_in _ (by omega)]at e;exact ⟨_,e,h2 (by omega) (by omega)⟩
theorem Yt (h:0<=b/\b<=63) (hk:K (.int .i64 (a/pw b))):AU .shr .i64 a k' b K:=⟨_,AqA h,hk⟩
theorem Aii (hk:K (.int .i64 (a%2))):AU .and .i64 a .i64 1 K:=⟨_,Aja,hk⟩
theorem sK (hk:K (.int k (k.wrap (a+b)))):AU .add k a k b K:=⟨_,by simp only[GF,if_true],hk⟩
theorem mZ (hk:K (.int k (k.wrap (a-b)))):AU .sub k a k b K:=⟨_,by simp only[GF,if_true],hk⟩
theorem Air (hk:K (.int k (k.wrap (a*b)))):AU .mul k a k b K:=⟨_,by simp only[GF,if_true],hk⟩
theorem FE.neg (hr : -9223372036854775808 <= -a /\ -a<=9223372036854775807) (hk:K (.int .i64 (-a))):FE .neg .i64 a K:=⟨_,by simp only[aL];rw[show (0:Int)-a = -a by omega,IntWalk.i64_in _ hr],hk⟩
theorem FE.go {op:UnOp} {v:AV} (h:aL op (.int k a)=some v) (hk:K v):FE op k a K:=⟨v,h,hk⟩
end
theorem iJ {k:IntKind} {n:Int} {K:Int->Prop} (e:k.wrap n=n) (h:K n):B6 k n K:=⟨by rw[e];exact h⟩
theorem EM {n:Int} {K:Int->Prop} (hr:0<=n/\n<=18446744073709551615) (h:K n):B6 .u64 n K:=iJ (IntWalk.u64_in _ hr) h
theorem aM {n:Int} {K:Int->Prop} (hr : -9223372036854775808<=n/\n<=9223372036854775807) (h:K n):B6 .i64 n K:=iJ (IntWalk.i64_in _ hr) h
theorem CN {a:Int} {z:Nat} {K:List AV->Prop} {e:α} (he:l[a.toNat]? = some e) (h0:0<=a) (hz:(enc e).length=z) (h:K (enc e)):BR (l.map enc) a z K:=⟨h0,enc e,by simp [he],hz,h⟩
theorem iR {a:Int} {z:Nat} {K:List AV->Prop} (h0:0<=a/\a<l.length) (hz : ∀ e,(enc e).length=z) (h : ∀ e,l[a.toNat]? = some e->K (enc e)):BR (l.map enc) a z K:=by
 have he:l[a.toNat]? = some (l[a.toNat]'(by omega)):=zE _;exact CN he h0.1 (hz _) (h _ he)
theorem MD {n z:Nat} {K:List AV->Prop} (hn:n<l.length) (hz : ∀ e,(enc e).length=z) (h : ∀ e,l[n]? = some e->K (enc e)):BR (l.map enc) (n:Int) z K :=
 iR ⟨by omega,by omega⟩ hz h
theorem dT {i j n:Nat} {K:List AV->Prop} {f:α->List AV} (hi:i<l.length) (hp : ∀ e,part (enc e) j n=some (f e)) (h : ∀ e,l[i]? = some e->K (f e)):C1 (l.map enc) (0+((i:Int)).toNat) j n K:=by
 have he:l[i]? = some l[i]:=zE _;rw[Nat.zero_add,Int.toNat_natCast];exact ⟨enc l[i],f l[i],by simp [he],hp _,h _ he⟩
theorem WS {i:Int} {j n:Nat} {K:List AV->Prop} {f:α->List AV} (hi:0<=i/\i<l.length) (hp : ∀ e,part (enc e) j n=some (f e)) (h : ∀ e,l[i.toNat]? = some e->K (f e)):C1 (l.map enc) (0+i.toNat) j n K:=by
 have hl:i.toNat<l.length:=by omega
 have he:l[i.toNat]? = some l[i.toNat]:=zE _;rw[Nat.zero_add];exact ⟨enc l[i.toNat],f l[i.toNat],by rw[List.getElem?_map,he];rfl,hp _,h _ he⟩
theorem KS {i:Nat} {vs:List AV} {K:List (List AV)->Prop} (e:α) (he:vs=enc e) (hz : ∀ x,(enc x).length=vs.length) (hi:i<l.length) (h:K ((l.set i e).map enc)):CK (l.map enc) (0+((i:Int)).toNat) 0 vs K:=by
 rw[Nat.zero_add,Int.toNat_natCast];refine ⟨enc l[i],by simp [zE hi],by rw[hz];omega,?_⟩;rw[show splice (enc l[i]) 0 vs=vs by simp [splice,<-hz l[i]],he,<-List.map_set];exact h
theorem sE {i j n:Nat} {K:List AV->Prop} {e:α} {ds:List AV} (he:l[i]? = some e) (hp:part (enc e) j n=some ds) (h:K ds):C1 (l.map enc) i j n K:=⟨enc e,ds,by simp [he],hp,h⟩
theorem AqK {cs vs:List AV} (h:cs.length=vs.length):splice cs 0 vs=vs:=by
 simp [splice,<-h]
theorem Aiz {i:Nat} {vs:List AV} {K:List (List AV)->Prop} (e:α) (he:vs=enc e) (hz : ∀ x,(enc x).length=vs.length) (hi:i<l.length) (h:K ((l.set i e).map enc)):CK (l.map enc) i 0 vs K:=by
 refine ⟨enc l[i],by simp [zE hi],by rw[hz];omega,?_⟩;rw[AqK (hz _),he,<-List.map_set];exact h
theorem GJ {a b:Int} {bytes:Nat} {zero:List AV} {K:List (List AV)->Nat->Prop} (x:α) (n:Nat) (hx:zero=enc x) (hn:a=n) (hr:a<=b/\b*bytes<=140737488355328/\b<=9223372036854775807) (h:K ((List.replicate n x).map enc) n):DS a b bytes zero K:=by
 subst hn hx;refine ⟨⟨by omega,hr.1,by simpa [I3] using hr.2.1,hr.2.2⟩,?_⟩;simpa using h
theorem Aih {a b:Int} {bytes:Nat} {zero:List AV} {K:List (List AV)->Nat->Prop} (x:α) (hx:zero=enc x) (h0:0<=a) (hr:a<=b/\b*bytes<=140737488355328/\b<=9223372036854775807) (h:K ((List.replicate a.toNat x).map enc) a.toNat):DS a b bytes zero K:=by
 subst hx;refine ⟨⟨h0,hr.1,by simpa [I3] using hr.2.1,hr.2.2⟩,?_⟩;simpa using h
theorem BT {K:Nat->Prop} (h:K l.length):BK (l.map enc) K:=⟨by simpa using h⟩
theorem H8 {len z bytes:Nat} {vs:List AV} {K:List (List AV)->Nat->Prop} (e:α) (he:vs=enc e) (hl:len=l.length) (hz:vs.length=z) (hr:(l.length+1)*bytes<=140737488355328) (ct:l.length+1<=9223372036854775807) (h:K ((l++[e]).map enc) (l++[e]).length):DE (l.map enc) len [vs] z bytes K:=by
 subst hl;refine ⟨by simp,by simpa using hz,by simpa [I3] using hr,by simpa using ct,?_⟩;rw[zT (by simp)];simpa [he] using h
theorem mK {len z bytes:Nat} {l':List α} {K:List (List AV)->Nat->Prop} (hl:len=l.length) (hz : ∀ x,(enc x).length=z) (hr:(l.length+l'.length)*bytes<=140737488355328) (ct:l.length+l'.length<=9223372036854775807) (h:K ((l++l').map enc) (l++l').length):DE (l.map enc) len (l'.map enc) z bytes K:=by
 subst hl;refine ⟨by simp,by simp [hz],by simpa [I3] using hr,by simpa using ct,?_⟩;rw[zT (by simp)];simpa using h
theorem ZF {z bytes:Nat} {vs:List AV} {K:List (List AV)->Nat->Prop} (e:α) (he:vs=enc e) (hz:vs.length=z) (hb:bytes<=140737488355328) (h:K ([e].map enc) 1):FA [vs] z bytes K :=
 ⟨by simpa using hz,by simpa [I3] using hb,by simp,by simpa [he] using h⟩
theorem ZB {z bytes:Nat} {K:List (List AV)->Nat->Prop} (hz : ∀ x,(enc x).length=z) (hr:l.length*bytes<=140737488355328) (ct:l.length<=9223372036854775807) (h:K (l.map enc) l.length):FA (l.map enc) z bytes K :=
 ⟨by simp [hz],by simpa [I3] using hr,by simpa using ct,by simpa using h⟩
theorem Ye {len z:Nat} {l':List α} {K:List (List AV)->Nat->Prop} (hl:len=l.length) (Vf:l'.length=l.length) (hz : ∀ x,(enc x).length=z) (h:K (l'.map enc) l'.length):G7 (l.map enc) 0 len (l'.map enc) z K:=by
 subst hl;refine ⟨by simp,by simp [hz],?_⟩;have e:min (l'.map enc).length l.length=l.length:=by simp [Vf]
 rw[e,List.take_zero,List.nil_append,zT (by simp [Vf]),List.drop_of_length_le (by simp),List.append_nil,<-Vf];exact h
theorem nB {off len:Nat} {K:List (List AV)->Prop} (hl:off+len<=l.length) (h:K (((l.drop off).take len).map enc)):DR (l.map enc) off len K :=
 ⟨by simpa using hl,by rw[<-List.map_drop,<-List.map_take];exact h⟩
theorem kQ : ∀ {e:List AV},J0 e=true->S0 e=true/\e.map nl=e
 | [],_=>⟨rfl,rfl⟩
 | v::r,h=>by
  have hv:J0 r=true:=by cases v<;>simp only[J0]at h<;>first|cases h|exact h
  obtain ⟨h1,h2⟩:=kQ hv;cases v<;>simp only[J0]at h<;>first|cases h|exact ⟨h1,by rw[List.map_cons,h2];rfl⟩
theorem AeY : ∀ {es:List (List AV)},(∀ e∈es,J0 e=true)->es.map (λ e=>e.map nl)=es
 | [],_=>rfl
 | e::r,h=>by rw[List.map_cons,(kQ (h e List.mem_cons_self)).2,AeY λ x hx=>h x (List.mem_cons_of_mem _ hx)]
theorem iV {es:List (List AV)} {off len:Nat} {K:List (List AV)->Prop} (hl:off+len<=es.length) (hz : ∀ e∈es,J0 e=true) (h:K ((es.drop off).take len)):B2 es off len K :=
 ⟨hl,λ e he=>(kQ (hz e he)).1,by rw[AeY λ e he=>hz e (List.mem_of_mem_drop (List.mem_of_mem_take he))];exact h⟩
theorem FO {off len:Nat} {K:List (List AV)->Prop} (hz : ∀ x,J0 (enc x)=true) (ho:off=0) (hl:len=l.length) (h:K (l.map enc)):B2 (l.map enc) off len K:=by
 subst hl ho;refine iV (by simp) (λ e he => ?_) (by rw[List.drop_zero,zT (by simp)];exact h);obtain ⟨x,_,rfl⟩:=List.mem_map.1 he;exact hz x
theorem M9 {off len:Nat} {K:List (List AV)->Prop} (hz : ∀ x,J0 (enc x)=true) (hl:off+len<=l.length) (h:K (((l.drop off).take len).map enc)):B2 (l.map enc) off len K:=by
 refine iV (by simpa using hl) (λ e he => ?_) (by rw[<-List.map_drop,<-List.map_take];exact h);obtain ⟨x,_,rfl⟩:=List.mem_map.1 he;exact hz x
theorem GY {e:List AV} {K:List (List AV)->Prop} (h:K [e]):DR [e] 0 1 K:=⟨by simp,h⟩
theorem J4 {e:List AV} {K:List (List AV)->Prop} (h0:J0 e=true) (h:K [e]):B2 [e] 0 1 K:=iV (by simp) (by simpa using h0) h
theorem ON {e e':List AV} {K:List (List AV)->Prop} (h0:J0 e=true) (h1:J0 e'=true) (h:K [e,e']):B2 [e,e'] 0 2 K:=iV (by simp) (by simpa using ⟨h0,h1⟩) h
theorem Yz {e':List AV} {K:List (List AV)->Prop} (h1:J0 e'=true) (h:K [[.sl false []],e']):B2 [[.nil],e'] 0 2 K :=
 ⟨by simp,by simpa using ⟨rfl,(kQ h1).1⟩,by simpa [(kQ h1).2,nl] using h⟩
section
variable {β:Type} {z:Nat} {ll:List (List β)} {en:β->List AV}
abbrev HA (z:Nat) (en:β->List AV) (ll:List (List β)):List (Option (Nat × List (List AV))):=ll.map λ r=>some (z,r.map en)
theorem Yk {i:Nat} {K:Option (Nat × List (List AV))->Prop} (hi:i<ll.length) (h : ∀ r,ll[i]? = some r->K (some (z,r.map en))):FM (HA z en ll) (0+((i:Int)).toNat) K:=by
 have he:ll[i]? = some ll[i]:=zE _;exact ⟨_,by rw[Nat.zero_add,Int.toNat_natCast,List.getElem?_map,he];rfl,h _ he⟩
theorem Aif {i:Int} {K:Option (Nat × List (List AV))->Prop} (hi:0<=i/\i<ll.length) (h : ∀ r,ll[i.toNat]? = some r->K (some (z,r.map en))):FM (HA z en ll) (0+i.toNat) K:=by
 have hl:i.toNat<ll.length:=by omega
 have he:ll[i.toNat]? = some ll[i.toNat]:=zE _;exact ⟨_,by rw[Nat.zero_add,List.getElem?_map,he];rfl,h _ he⟩
theorem Yh {i:Nat} {K:Nat->List (List AV)->Prop} {r:List β} (hr:ll[i]? = some r) (h:K z (r.map en)):E2 (HA z en ll) i K :=
 ⟨z,r.map en,by rw[List.getElem?_map,hr];rfl,h⟩
theorem Yi {i:Nat} {K:Nat->List (List AV)->Prop} {r:List β} (hr:ll[i]? = some r) (h:K z (r.map en)):E2 (HA z en ll) (0+((i:Int)).toNat) K:=by
 rw[Nat.zero_add,Int.toNat_natCast];exact Yh hr h
theorem Aic {i:Int} {K:Nat->List (List AV)->Prop} {r:List β} (hr:ll[i.toNat]? = some r) (h:K z (r.map en)):E2 (HA z en ll) (0+i.toNat) K:=by
 rw[Nat.zero_add];exact Yh hr h
theorem Ait {i:Nat} {r r':List β} {K:List (Option (Nat × List (List AV)))->Prop} (hl:r'.length=r.length) (h:K (HA z en (ll.set i r'))):G8 (HA z en ll) (0+((i:Int)).toNat) z (r.map en) (r'.map en) K:=by
 rw[Nat.zero_add,Int.toNat_natCast];exact ⟨by simpa using hl,by simpa [HA,List.map_set] using h⟩
theorem mJ {len bytes:Nat} {r:List β} {K:List (Option (Nat × List (List AV)))->Nat->Prop} (hl:len=ll.length) (hr:(ll.length+1)*bytes<=140737488355328) (ct:ll.length+1<=9223372036854775807) (h:K (HA z en (ll++[r])) (ll++[r]).length):EG (HA z en ll) len (some (z,r.map en)) bytes K:=by
 subst hl;exact ⟨by simp,by simpa [I3] using hr,ct,by simpa [HA] using h⟩
theorem AfB (q:Bool) : ∀ ll:List (List β),XT q (HA z en ll)=ll.map λ r=>[AV.sl q (r.map en)]
 | []=>rfl
 | r::l=>by simp only[HA,List.map_cons,XT];rw[show XT q (l.map λ r=>some (z,r.map en))=_ from AfB q l]
theorem WX {q:Bool} {off len:Nat} {K:List (List AV)->Prop} (hz : ∀ x,J0 (en x)=true) (ho:off=0) (hl:len=ll.length) (h:K (ll.map λ r=>[AV.sl q (r.map en)])):FK q (HA z en ll) off len K:=by
 refine ⟨ho,by simpa using hl,λ z' es hm e he => ?_,by rw[AfB];exact h⟩;obtain ⟨r,_,hr⟩:=List.mem_map.1 hm;simp only[Option.some.injEq,Prod.mk.injEq]at hr;obtain ⟨rfl,rfl⟩:=hr;obtain ⟨x,_,rfl⟩:=List.mem_map.1 he;exact hz x
end
theorem Ah6 {len:Nat} {a:Int} {K:Nat->Nat->Prop} (h0:0<=a/\a<=len) (h:K a.toNat len):EH (some a) none len K:=⟨a.toNat,len,⟨h0.1,rfl⟩,rfl,by omega,h⟩
theorem Ah5 {len:Nat} {b:Int} {K:Nat->Nat->Prop} (h0:0<=b/\b<=len) (h:K 0 b.toNat):EH none (some b) len K:=⟨0,b.toNat,rfl,⟨h0.1,h0.2,rfl⟩,by omega,h⟩
theorem rX {len:Nat} {a b:Int} {K:Nat->Nat->Prop} (h0:0<=a/\a<=b/\b<=len) (h:K a.toNat b.toNat):EH (some a) (some b) len K:=⟨a.toNat,b.toNat,⟨h0.1,rfl⟩,⟨by omega,by omega,rfl⟩,by omega,h⟩
theorem nC {z:Nat} {lo hi:Option Int} {K:List (List AV)->Prop} (hz : ∀ x,(enc x).length=z) (h:EH lo hi l.length λ a h=>K (((l.take h).drop a).map enc)):E5 z (l.map enc) lo hi K:=by
 refine ⟨by simp [hz],?_⟩;rw[List.length_map];obtain ⟨a,b,h1,h2,h3,h4⟩:=h;refine ⟨a,b,h1,h2,h3,?_⟩;show K _;rw[<-List.map_take,<-List.map_drop];exact h4
theorem QE {z k:Nat} {K:List (List AV)->Prop} (hz : ∀ x,(enc x).length=z) (hk:k<=l.length) (h:K ((l.take k).map enc)):E5 z (l.map enc) none (some (k:Int)) K :=
 nC hz (Ah5 (by omega) (by simpa using h))
theorem Yx {z k:Nat} {K:List (List AV)->Prop} (hz : ∀ x,(enc x).length=z) (hk:k<=l.length) (h:K ((l.drop k).map enc)):E5 z (l.map enc) (some (k:Int)) none K :=
 nC hz (Ah6 (by omega) (by simpa using h))
theorem AP {f:Nat} {vs:List AV} {K:AV->Prop} {r:AV} (h:Ev L f vs r) (hk:K r):AL L f vs K:=⟨r,h,hk⟩
theorem HV {f:Nat} {vs:List AV} {K:AV->Prop} {p:Prop} [Decidable p] (h:Ev L f vs (.bool (decide p))) (h1:p->K (.bool true)) (h2 : ¬ p->K (.bool false)):AL L f vs K:=by
 refine ⟨_,h,?_⟩;by_cases e:p
 ·rw[decide_eq_true e];exact h1 e
 ·rw[decide_eq_false e];exact h2 e
theorem Ah9 {f:Nat} {vs:List AV} {K:AV->Prop} {b:Bool} (h:Ev L f vs (.bool b)) (h1:b=true->K (.bool true)) (h2:b=false->K (.bool false)):AL L f vs K:=by
 refine ⟨_,h,?_⟩;cases b
 ·exact h2 rfl
 ·exact h1 rfl
theorem BV {a r:AV} (h:a=r) (hc:B3 r):BC a r:=⟨h,hc⟩
theorem JO {a r:Bool} (h:a=r):BC (.bool a) (.bool r):=⟨by rw[h],by simp [B3]⟩
theorem aQ {p:Prop} [Decidable p] (h:p):BC (.bool true) (.bool (decide p)):=⟨by simp [h],by simp [B3]⟩
theorem ZH {p:Prop} [Decidable p] (h : ¬ p):BC (.bool false) (.bool (decide p)):=⟨by simp [h],by simp [B3]⟩
theorem ET {k:IntKind} {a b:Int} (h:a=b):BC (.int k a) (.int k b):=⟨by rw[h],by simp [B3]⟩
theorem ZR (h : ∀ x,EC (enc x)) : ∀ l:List α,IH (l.map enc)
 | []=>by simp [IH]
 | x::r=>by rw[List.map_cons,IH];exact ⟨h x,ZR h r⟩
end
theorem jC (l:List Int):IH (l.map DT):=ZR (λ_=>by simp [EC,B3]) l
theorem G6 {α:Type} {L:Lib} {k:List It} {cd:DD} {tm:Tm} {M:Mem} {Q:Tm->Mem->Prop} (m:α->Nat) (P:α->Prop) (vs:α->Tm) (Ms:α->Mem) (ts:List Nat) (τ:List (Nat × Nat)) (a:α)
  (he:PR τ tm M (vs a++ak ts tm) (Ms a++M)) (hp:P a)
  (step : ∀ a,P a->(∀ a',m a'<m a->P a'->AJ L (.lp cd::k) (vs a'++ak ts tm) (Ms a'++M) Q)->AJ L (.code cd :: .lp cd::k) (vs a++ak ts tm) (Ms a++M) Q):AJ L (.lp cd::k) tm M Q :=
 iH (α:=α) (λ x=>m x) (λ x=>P x) (λ x=>vs x) (λ x=>Ms x) ts τ a he hp λ a h ih=>step a h λ a' h1 h2=>ih a' h1 h2
theorem dO {α β:Type} {L:Lib} {k:List It} {cd:DD} {tm:Tm} {M:Mem} {Q:Tm->Mem->Prop} (m:α->β->Nat) (P:α->β->Prop) (vs:α->β->Tm) (Ms:α->β->Mem) (ts:List Nat) (τ:List (Nat × Nat)) (a:α) (b:β)
  (he:PR τ tm M (vs a b++ak ts tm) (Ms a b++M)) (hp:P a b)
  (step : ∀ a b,P a b->(∀ a' b',m a' b'<m a b->P a' b'->AJ L (.lp cd::k) (vs a' b'++ak ts tm) (Ms a' b'++M) Q)->AJ L (.code cd :: .lp cd::k) (vs a b++ak ts tm) (Ms a b++M) Q):AJ L (.lp cd::k) tm M Q :=
 iH (α:=α × β) (λ x=>m x.1 x.2) (λ x=>P x.1 x.2) (λ x=>vs x.1 x.2) (λ x=>Ms x.1 x.2) ts τ (a,b) he hp λ⟨a,b⟩ h ih=>step a b h λ a' b' h1 h2=>ih (a',b') h1 h2
theorem Ahq {α β γ:Type} {L:Lib} {k:List It} {cd:DD} {tm:Tm} {M:Mem} {Q:Tm->Mem->Prop} (m:α->β->γ->Nat) (P:α->β->γ->Prop) (vs:α->β->γ->Tm) (Ms:α->β->γ->Mem) (ts:List Nat) (τ:List (Nat × Nat)) (a:α) (b:β) (c:γ)
  (he:PR τ tm M (vs a b c++ak ts tm) (Ms a b c++M)) (hp:P a b c)
  (step : ∀ a b c,P a b c->(∀ a' b' c',m a' b' c'<m a b c->P a' b' c'->AJ L (.lp cd::k) (vs a' b' c'++ak ts tm) (Ms a' b' c'++M) Q)->AJ L (.code cd :: .lp cd::k) (vs a b c++ak ts tm) (Ms a b c++M) Q):AJ L (.lp cd::k) tm M Q :=
 iH (α:=α × β × γ) (λ x=>m x.1 x.2.1 x.2.2) (λ x=>P x.1 x.2.1 x.2.2) (λ x=>vs x.1 x.2.1 x.2.2) (λ x=>Ms x.1 x.2.1 x.2.2) ts τ (a,b,c) he hp λ⟨a,b,c⟩ h ih=>step a b c h λ a' b' c' h1 h2=>ih (a',b',c') h1 h2
theorem iI {α β γ δ:Type} {L:Lib} {k:List It} {cd:DD} {tm:Tm} {M:Mem} {Q:Tm->Mem->Prop} (m:α->β->γ->δ->Nat) (P:α->β->γ->δ->Prop) (vs:α->β->γ->δ->Tm) (Ms:α->β->γ->δ->Mem) (ts:List Nat) (τ:List (Nat × Nat)) (a:α) (b:β) (c:γ) (d:δ)
  (he:PR τ tm M (vs a b c d++ak ts tm) (Ms a b c d++M)) (hp:P a b c d)
  (step : ∀ a b c d,P a b c d->(∀ a' b' c' d',m a' b' c' d'<m a b c d->P a' b' c' d'->AJ L (.lp cd::k) (vs a' b' c' d'++ak ts tm) (Ms a' b' c' d'++M) Q)->AJ L (.code cd :: .lp cd::k) (vs a b c d++ak ts tm) (Ms a b c d++M) Q):AJ L (.lp cd::k) tm M Q :=
 iH (α:=α × β × γ × δ) (λ x=>m x.1 x.2.1 x.2.2.1 x.2.2.2) (λ x=>P x.1 x.2.1 x.2.2.1 x.2.2.2) (λ x=>vs x.1 x.2.1 x.2.2.1 x.2.2.2) (λ x=>Ms x.1 x.2.1 x.2.2.1 x.2.2.2) ts τ (a,b,c,d) he hp λ⟨a,b,c,d⟩ h ih=>step a b c d h λ a' b' c' d' h1 h2=>ih (a',b',c',d') h1 h2
theorem Ahr {α β γ δ ε ζ:Type} {L:Lib} {k:List It} {cd:DD} {tm:Tm} {M:Mem} {Q:Tm->Mem->Prop} (m:α->β->γ->δ->ε->ζ->Nat) (P:α->β->γ->δ->ε->ζ->Prop) (vs:α->β->γ->δ->ε->ζ->Tm) (Ms:α->β->γ->δ->ε->ζ->Mem) (ts:List Nat) (τ:List (Nat × Nat)) (a:α) (b:β) (c:γ) (d:δ) (e:ε) (f:ζ)
  (he:PR τ tm M (vs a b c d e f++ak ts tm) (Ms a b c d e f++M)) (hp:P a b c d e f)
  (step : ∀ a b c d e f,P a b c d e f->(∀ a' b' c' d' e' f',m a' b' c' d' e' f'<m a b c d e f->P a' b' c' d' e' f'->AJ L (.lp cd::k) (vs a' b' c' d' e' f'++ak ts tm) (Ms a' b' c' d' e' f'++M) Q)->AJ L (.code cd :: .lp cd::k) (vs a b c d e f++ak ts tm) (Ms a b c d e f++M) Q):AJ L (.lp cd::k) tm M Q :=
 iH (α:=α × β × γ × δ × ε × ζ) (λ x=>m x.1 x.2.1 x.2.2.1 x.2.2.2.1 x.2.2.2.2.1 x.2.2.2.2.2) (λ x=>P x.1 x.2.1 x.2.2.1 x.2.2.2.1 x.2.2.2.2.1 x.2.2.2.2.2) (λ x=>vs x.1 x.2.1 x.2.2.1 x.2.2.2.1 x.2.2.2.2.1 x.2.2.2.2.2) (λ x=>Ms x.1 x.2.1 x.2.2.1 x.2.2.2.1 x.2.2.2.2.1 x.2.2.2.2.2) ts τ (a,b,c,d,e,f) he hp λ⟨a,b,c,d,e,f⟩ h ih=>step a b c d e f h λ a' b' c' d' e' f' h1 h2=>ih (a',b',c',d',e',f') h1 h2
theorem G5 {α:Type} {L:Lib} {k:List It} {cd:DD} {tm:Tm} {M:Mem} {Q:Tm->Mem->Prop} (m:α->Nat) (P:α->Prop) (vs:α->Tm) (Ms:α->Mem) (a:α)
  (hp:P a)
  (step : ∀ a,P a->(∀ a',m a'<m a->P a'->AJ L (.lp cd::k) (vs a'++ak [] tm) (Ms a'++M) Q)->AJ L (.code cd :: .lp cd::k) (vs a++ak [] tm) (Ms a++M) Q)
  (he:PR [] tm M (vs a++ak [] tm) (Ms a++M):=by (conv=>whnf);exact ⟨rfl,rfl,rfl⟩):AJ L (.lp cd::k) tm M Q :=
 G6 m P vs Ms [] [] a he hp step
theorem IX {α β:Type} {L:Lib} {k:List It} {cd:DD} {tm:Tm} {M:Mem} {Q:Tm->Mem->Prop} (m:α->β->Nat) (P:α->β->Prop) (vs:α->β->Tm) (Ms:α->β->Mem) (a:α) (b:β)
  (hp:P a b)
  (step : ∀ a b,P a b->(∀ a' b',m a' b'<m a b->P a' b'->AJ L (.lp cd::k) (vs a' b'++ak [] tm) (Ms a' b'++M) Q)->AJ L (.code cd :: .lp cd::k) (vs a b++ak [] tm) (Ms a b++M) Q)
  (he:PR [] tm M (vs a b++ak [] tm) (Ms a b++M):=by (conv=>whnf);exact ⟨rfl,rfl,rfl⟩):AJ L (.lp cd::k) tm M Q :=
 dO m P vs Ms [] [] a b he hp step
theorem LD {α β γ:Type} {L:Lib} {k:List It} {cd:DD} {tm:Tm} {M:Mem} {Q:Tm->Mem->Prop} (m:α->β->γ->Nat) (P:α->β->γ->Prop) (vs:α->β->γ->Tm) (Ms:α->β->γ->Mem) (a:α) (b:β) (c:γ)
  (hp:P a b c)
  (step : ∀ a b c,P a b c->(∀ a' b' c',m a' b' c'<m a b c->P a' b' c'->AJ L (.lp cd::k) (vs a' b' c'++ak [] tm) (Ms a' b' c'++M) Q)->AJ L (.code cd :: .lp cd::k) (vs a b c++ak [] tm) (Ms a b c++M) Q)
  (he:PR [] tm M (vs a b c++ak [] tm) (Ms a b c++M):=by (conv=>whnf);exact ⟨rfl,rfl,rfl⟩):AJ L (.lp cd::k) tm M Q :=
 Ahq m P vs Ms [] [] a b c he hp step
theorem A2 {L:Lib} {Q:Tm->Mem->Prop} {c:DD} {k:List It} {tm:Tm} {M:Mem} (h:fT (Aq 0 tm) λ tm=>fW M λ M=>XK L Q 500 (.code c::k) tm M):AJ L (.code c::k) tm M Q:=by
 rw[fD,pM]at h;exact Zb (sR h)
end Go.b8

namespace Go.b8
variable {L:Lib}
def FW (N:Nat):BL->Bool
 | .t n=>Nat.blt n N
 | .c _=>true
def kV (N:Nat):H0->Bool
 | .v3 x=>FW N x
 | .bu _ _=>true
 | .pick c a b=>FW N c&&(FW N a&&FW N b)
 | .bin _ x y=>FW N x&&FW N y
 | .beq _ x y=>FW N x&&FW N y
 | .un _ x=>FW N x
 | .conv _ x=>FW N x
 | .box _ x=>FW N x
 | .alloc _ _=>true
 | .build _ ps=>ps.all λ p=>FW N p.2.2
 | .a8 _ _ ps=>ps.all (FW N)
 | .k7 x _=>FW N x
 | .rn x _ _ _=>FW N x
 | .v7 _ _ x i=>FW N x&&FW N i
 | .ld _ _ x=>FW N x
 | .st _ x v=>FW N x&&FW N v
 | .mk _ _ _ _ l c=>FW N l&&FW N c
 | .gn _ x lo hi=>FW N x&&((lo.all (FW N))&&(hi.all (FW N)))
 | .ext x _=>FW N x
 | .len x=>FW N x
 | .mm _ xs=>xs.all (FW N)
 | .app _ _ _ x y=>FW N x&&FW N y
 | .pz _ x y=>FW N x&&FW N y
 | .call _ xs=>xs.all (FW N)
 | .e8 _ xs=>xs.all (FW N)
 | .wh _ x=>FW N x
 | .js _ x=>FW N x
 | .bad=>true
 | .td _ _ xs=>xs.all (FW N)
 | .q8 x xs=>FW N x&&xs.all (FW N)
 | .n9 _ xs=>xs.all (FW N)
 | .q6 _ _ xs=>xs.all (FW N)
 | .dh _ _ xs=>xs.all (FW N)
 | .te _ _ x v=>FW N x&&FW N v
def iW (N:Nat) (a:AI):Bool:=(a.dst.all λ d=>Nat.blt d N)&&((a.guard.all λ g=>Nat.blt g.1 N)&&kV N a.op)
def NR (N:Nat):DD->Bool
 | .skip=>true
 | .ops l _=>l.all (iW N)
 | .dr c ts _=>NR N c&&ts.all λ t=>Nat.blt t N
 | .scope c=>NR N c
 | .seq a b=>NR N a&&NR N b
 | .cond c a b=>FW N c&&(NR N a&&NR N b)
 | .block _ c=>NR N c
 | .loop c=>NR N c
 | .exit _=>true
 | .ret=>true
def Z6 (N:Nat):It->Bool
 | .code c=>NR N c
 | .rm ts _=>ts.all λ t=>Nat.blt t N
 | .c9 _=>true
 | .lp c=>NR N c
structure Gh (N:Nat) (G T T':Tm):Prop where
 lo : ∀ j,j<N->g7 T' j=g7 T j
 hi : ∀ j,N<=j->g7 T' j=g7 G j
variable {N:Nat} {G:Tm}
theorem bA {a b:Nat}:Nat.blt a b=true↔a<b:=by simp [Nat.blt];omega
theorem Gh.ev {st:St} {T':Tm} {o:BD} (h:Gh N G st.tm T') {x:BL} (hx:FW N x=true):St.ev ⟨T',o⟩ x=st.ev x:=by
 cases x with
 | t n=>exact h.lo n (bA.1 hx)
 | c v=>rfl
theorem cD {f g:BL->AV} {xs:List BL} (h : ∀ x,FW N x=true->f x=g x) (hx:xs.all (FW N)=true):xs.map f=xs.map g:=by
 apply List.map_congr_left;intro x hm;exact h x (List.all_eq_true.1 hx x hm)
theorem Alx {C:Cl} {b7:List Nat} {ρ ρ':BL->AV} {own:BD} (h : ∀ x,FW N x=true->ρ' x=ρ x) : ∀ (op:H0),kV N op=true->e9 C b7 ρ' own op=e9 C b7 ρ own op:=by
 intro op m6;cases op;case build zero ps =>
  have:(ps.map λ p=>(p.1,p.2.1,ρ' p.2.2))=ps.map λ p=>(p.1,p.2.1,ρ p.2.2):=by
   apply List.map_congr_left;intro p hm;rw[h _ (List.all_eq_true.1 m6 p hm)]
  simp only[e9,this]
 case a8 s a7 ps =>
  have:ps.mapM (λ x=>cellsOf (ρ' x))=ps.mapM (λ x=>cellsOf (ρ x)):=by
   have xi:ps.all (FW N)=true:=m6;clear m6;induction ps with
   | nil=>rfl
   | cons p r ih =>
    simp only[List.all_cons,Bool.and_eq_true]at xi;simp only[List.mapM_cons,h _ xi.1,ih xi.2]
  simp only[e9,this]
 case mm m xs=>simp only[e9,cD h m6]
 case call f xs=>simp only[e9,cD h m6]
 case e8 f xs=>simp only[e9,cD h m6]
 case td p f xs =>
  have:xs.mapM (λ x=>L3 (ρ' x))=xs.mapM (λ x=>L3 (ρ x)):=by
   have xi:xs.all (FW N)=true:=m6;clear m6;induction xs with
   | nil=>rfl
   | cons p r ih =>
    simp only[List.all_cons,Bool.and_eq_true]at xi;simp only[List.mapM_cons,h _ xi.1,ih xi.2]
  simp only[e9,this]
 case n9 f xs=>simp only[e9,cD h m6]
 case q6 s f xs=>simp only[e9,cD h m6]
 case dh s f xs=>simp only[e9,cD h m6]
 case q8 x xs =>
  simp only[kV,Bool.and_eq_true]at m6;simp only[e9,cD h m6.2,h _ m6.1]
 case gn a7 x lo hi =>
  simp only[kV,Bool.and_eq_true]at m6;obtain ⟨h1,h2,h3⟩:=m6;cases lo<;>cases hi<;>simp only[Option.all_some,Option.all_none]at h2 h3<;>simp only[e9,h _ h1,h _,h2,h3]
 all_goals (simp only[kV,Bool.and_eq_true]at m6;simp only[e9,h _,m6])
theorem Gh.dst {T T':Tm} (h:Gh N G T T') {d:Nat} (hd:d<N) (v:AV):Gh N G (na T d v) (na T' d v):=by
 constructor
 ·intro j hj
  rw[mE,mE,h.lo j hj]
 ·intro j hj
  rw[mE,h.hi j hj,if_neg (by omega)]
theorem Gh.tn {T T':Tm} {o:BD} (h:Gh N G T T') {d:Option Nat} (hd:(d.all λ d=>Nat.blt d N)=true) (v:AV):((⟨T',o⟩:St).dst d v).own=((⟨T,o⟩:St).dst d v).own/\Gh N G ((⟨T,o⟩:St).dst d v).tm ((⟨T',o⟩:St).dst d v).tm:=by
 cases d with
 | none=>exact ⟨rfl,h⟩
 | some d=>exact ⟨rfl,h.dst (bA.1 hd) v⟩
theorem AqR {C:Cl} {a:AI} (ha:iW N a=true) {T T':Tm} {o:BD} (h:Gh N G T T') {s':St} (hs:F9 C a ⟨T',o⟩=some s') : ∃ s,F9 C a ⟨T,o⟩=some s/\s'.own=s.own/\Gh N G s.tm s'.tm:=by
 simp only[iW,Bool.and_eq_true]at ha;obtain ⟨h1,h2,h3⟩:=ha;have hg:J8 ⟨T',o⟩ a.guard=J8 ⟨T,o⟩ a.guard:=by
  cases hgg:a.guard with
  | none=>rfl
  | some g =>
   rw[hgg]at h2;simp only[J8,h.lo _ (bA.1 h2)]
 have he:=Alx (C:=C) (b7:=a.b7) (own:=o) (ρ:=St.ev ⟨T,o⟩) (ρ':=St.ev ⟨T',o⟩) (λ x hx=>Gh.ev (st:=⟨T,o⟩) h hx) a.op h3;unfold F9 at hs ⊢;rw[hg,he]at hs;cases Ib:J8 ⟨T,o⟩ a.guard with
 | none=>rw[Ib]at hs;cases hs
 | some b =>
  rw[Ib]at hs;cases b with
  | false =>
   simp only[Option.some.injEq]at hs ⊢;subst hs;exact ⟨_,rfl,h.tn h1 _⟩
  | true =>
   simp only at hs ⊢;cases hee:e9 C a.b7 (St.ev ⟨T,o⟩) o a.op with
   | none=>rw[hee]at hs;cases hs
   | some e =>
    rw[hee]at hs;simp only[Option.map_some,Option.some.injEq]at hs ⊢;subst hs;refine ⟨_,rfl,?_⟩;cases e with
    | val v=>exact h.tn h1 v
    | new s b v=>exact ⟨rfl,(h.tn (o:=o) h1 _).2⟩
    | Df s b v=>exact ⟨rfl,(h.tn (o:=o) h1 _).2⟩
    | fp v o'=>exact ⟨rfl,(h.tn (o:=o) h1 _).2⟩
    | w6 s x=>exact ⟨rfl,(h.tn (o:=o) h1 _).2⟩
    | Bg s x v=>exact ⟨rfl,(h.tn (o:=o) h1 _).2⟩
theorem Agj {C:Cl} : ∀ {l:List AI},l.all (iW N)=true -> ∀ {T T':Tm} {o:BD},Gh N G T T' -> ∀ {s':St},G1 C l ⟨T',o⟩=some s' -> ∃ s,G1 C l ⟨T,o⟩=some s/\s'.own=s.own/\Gh N G s.tm s'.tm
 | [],_,T,T',o,h,s',hs=>by
  simp only[G1,Option.some.injEq]at hs;subst hs;exact ⟨_,rfl,rfl,h⟩
 | a::l,ha,T,T',o,h,s',hs=>by
  simp only[List.all_cons,Bool.and_eq_true]at ha;simp only[G1]at hs;cases h1:F9 C a ⟨T',o⟩ with
  | none=>rw[h1]at hs;cases hs
  | some s1 =>
   rw[h1]at hs;obtain ⟨s2,e1,e2,e3⟩:=AqR ha.1 h h1;obtain ⟨T1,o1⟩:=s1;obtain ⟨T2,o2⟩:=s2;simp only at e2 e3;subst e2;obtain ⟨s3,f1,f2,f3⟩:=Agj ha.2 e3 hs;exact ⟨s3,by simp only[G1,e1,f1],f2,f3⟩
theorem kC {id:Nat} : ∀ {k k':List It},k.all (Z6 N)=true->J7 id k=some k'->k'.all (Z6 N)=true
 | [],_,_,h=>by simp [J7]at h
 | it::k,k',hk,h=>by
  simp only[List.all_cons,Bool.and_eq_true]at hk;cases it with
  | c9 i =>
   simp only[J7]at h;split at h
   ·cases h;exact hk.2
   ·exact kC hk.2 h
  | code c=>simp only[J7]at h;exact kC hk.2 h
  | rm a b=>simp only[J7]at h;exact kC hk.2 h
  | lp c=>simp only[J7]at h;exact kC hk.2 h
theorem N9 {C:Cl} : ∀ (n:Nat) {k:List It},k.all (Z6 N)=true -> ∀ {T T':Tm} {o:BD},Gh N G T T' -> ∀ {s':St},run C n k ⟨T',o⟩=some s' -> ∃ s,run C n k ⟨T,o⟩=some s/\s'.own=s.own/\Gh N G s.tm s'.tm
 | 0,k,_,T,T',o,_,s',hs=>by simp [run]at hs
 | n+1,[],_,T,T',o,h,s',hs=>by
  simp only[run,Option.some.injEq]at hs ⊢;subst hs;exact ⟨_,rfl,rfl,h⟩
 | n+1,.c9 _::k,hk,T,T',o,h,s',hs=>by
  simp only[List.all_cons,Bool.and_eq_true]at hk;simp only[run]at hs ⊢;exact N9 n hk.2 h hs
 | n+1,.rm ts ss::k,hk,T,T',o,h,s',hs=>by
  simp only[List.all_cons,Bool.and_eq_true]at hk;simp only[run]at hs ⊢;refine N9 n hk.2 ⟨λ j hj => ?_,λ j hj => ?_⟩ hs
  ·rw[hJ,hJ,h.lo j hj]
  ·rw[hJ,h.hi j hj,if_neg]
   intro hc;have:=List.all_eq_true.1 hk.1 j (by simpa using hc)
   have:=bA.1 this
   omega
 | n+1,.lp c::k,hk,T,T',o,h,s',hs=>by
  simp only[run]at hs ⊢;have lj:=hk;simp only[List.all_cons,Bool.and_eq_true]at hk;exact N9 n (by simp only[List.all_cons,Bool.and_eq_true];exact ⟨hk.1,hk.1,hk.2⟩) h hs
 | n+1,.code c::k,hk,T,T',o,h,s',hs=>by
  simp only[List.all_cons,Bool.and_eq_true]at hk;obtain ⟨hc,hk⟩:=hk;cases c with
  | skip=>simp only[run]at hs ⊢;exact N9 n hk h hs
  | ops l d =>
   simp only[run]at hs ⊢;cases h1:G1 C l ⟨T',o⟩ with
   | none=>rw[h1]at hs;cases hs
   | some s1 =>
    rw[h1]at hs;obtain ⟨s2,e1,e2,e3⟩:=Agj (show l.all (iW N)=true from hc) h h1;obtain ⟨T1,o1⟩:=s1;obtain ⟨T2,o2⟩:=s2;simp only at e2 e3;subst e2;rw[e1];exact N9 n hk e3 hs
  | dr c ts ss =>
   simp only[run]at hs ⊢;simp only[Z6,NR,Bool.and_eq_true]at hc;exact N9 n (by simp only[List.all_cons,Bool.and_eq_true];exact ⟨hc.1,hc.2,hk⟩) h hs
  | scope c =>
   simp only[run]at hs ⊢;exact N9 n (by simp only[List.all_cons,Bool.and_eq_true];exact ⟨hc,hk⟩) h hs
  | seq a b =>
   simp only[run]at hs ⊢;simp only[Z6,NR,Bool.and_eq_true]at hc;exact N9 n (by simp only[List.all_cons,Bool.and_eq_true];exact ⟨hc.1,hc.2,hk⟩) h hs
  | cond x a b =>
   simp only[Z6,NR,Bool.and_eq_true]at hc;simp only[run,Gh.ev (st:=⟨T,o⟩) h hc.1]at hs ⊢;cases hx:St.ev ⟨T,o⟩ x<;>rw[hx]at hs<;>try (simp at hs;done)
   rename_i q;cases q
   ·exact N9 n (by simp only[List.all_cons,Bool.and_eq_true];exact ⟨hc.2.2,hk⟩) h hs
   ·exact N9 n (by simp only[List.all_cons,Bool.and_eq_true];exact ⟨hc.2.1,hk⟩) h hs
  | block id c =>
   simp only[run]at hs ⊢;exact N9 n (by simp only[List.all_cons,Bool.and_eq_true];exact ⟨hc,rfl,hk⟩) h hs
  | loop c =>
   simp only[run]at hs ⊢;exact N9 n (by simp only[List.all_cons,Bool.and_eq_true];exact ⟨hc,hc,hk⟩) h hs
  | exit id =>
   simp only[run]at hs ⊢;cases he:J7 id k with
   | none=>rw[he]at hs;cases hs
   | some k' =>
    rw[he]at hs;exact N9 n (kC hk he) h hs
  | ret =>
   simp only[run,Option.some.injEq]at hs ⊢;subst hs;exact ⟨_,rfl,rfl,h⟩
def LS (N:Nat):Tm->Tm
 | []=>[]
 | (i,v)::r=>(N+i,v)::LS N r
def gh (N:Nat):Tm->Tm
 | []=>[]
 | (i,v)::r=>bif Nat.ble N i then (Nat.sub i N,v)::gh N r else gh N r
theorem Qr (N j:Nat) : ∀ T:Tm,g7 (LS N T) (N+j)=g7 T j
 | []=>rfl
 | (i,v)::r=>by
  have ih:=Qr N j r;simp only[LS,g7,ih];by_cases h:j=i
  ·simp [h]
  ·rw[if_neg h,if_neg (by omega)]
theorem Qs {N j:Nat} (hj:j<N) : ∀ T:Tm,g7 (LS N T) j = .any
 | []=>rfl
 | (i,v)::r=>by
  simp only[LS,g7,Qs hj r];rw[if_neg (by omega)]
theorem Qp (N j:Nat) : ∀ T:Tm,g7 (gh N T) j=g7 T (N+j)
 | []=>rfl
 | (i,v)::r=>by
  have ih:=Qp N j r;simp only[gh];cases h:Nat.ble N i
  ·have h1 : ¬ N<=i:=λ e=>by rw[Nat.ble_eq_true_of_le e]at h;cases h
   simp only[cond,g7,ih];rw[if_neg (by omega)]
  ·have h1:=Nat.le_of_ble_eq_true h
   simp only[cond,g7,ih];by_cases h2:j=i-N
   ·rw[if_pos (show j=Nat.sub i N from h2),if_pos (by omega)]
   ·rw[if_neg (show ¬ j=Nat.sub i N from h2),if_neg (by omega)]
def RR (f:AV->AV):Tm->Tm
 | []=>[]
 | (i,v)::r=>(i,f v)::RR f r
theorem PN {f:AV->AV} (hf:f .any = .any) (j:Nat) : ∀ T:Tm,g7 (RR f T) j=f (g7 T j)
 | []=>hf.symm
 | (i,v)::r=>by
  simp only[RR,g7,PN hf j r];by_cases h:j=i<;>simp [h]
theorem wK (f:AV->AV) : ∀ (i:Nat) (vs:List AV),FV i (vs.map f)=RR f (FV i vs)
 | _,[]=>rfl
 | i,v::r=>by simp only[List.map_cons,FV,RR,wK f (i+1) r]
theorem mC (j:Nat) (b:Tm) : ∀ a:Tm,((a.any λ p=>p.1 == j)=true/\g7 (a++b) j=g7 a j)\/((a.any λ p=>p.1 == j)=false/\g7 (a++b) j=g7 b j)
 | []=>Or.inr ⟨rfl,rfl⟩
 | (i,v)::r=>by
  by_cases h:j=i
  ·subst h
   exact Or.inl (by simp [g7])
  ·have h' : ¬ i=j:=λ e=>h e.symm
   rcases mC j b r with ⟨h1,h2⟩|⟨h1,h2⟩
   ·exact Or.inl ⟨by rw[List.any_cons,h1,Bool.or_true],by simp only[List.cons_append,g7,if_neg h,h2]⟩
   ·exact Or.inr ⟨by rw[List.any_cons,h1,Bool.or_false];simpa using h',by simp only[List.cons_append,g7,if_neg h,h2]⟩
theorem wJ (j:Nat) : ∀ (i:Nat) (vs:List AV),((FV i vs).any λ p=>p.1 == j)=true->j<i+vs.length
 | _,[],h=>by simp [FV]at h
 | i,v::r,h=>by
  simp only[FV,List.any_cons,Bool.or_eq_true,beq_iff_eq]at h;rcases h with h|h
  ·simp;omega
  ·have:=wJ j (i+1) r h
   simp;omega
theorem Qq (j:Nat) : ∀ (i:Nat) (vs:List AV),((FV i vs).any λ p=>p.1 == j)=false->g7 (FV i vs) j = .any
 | _,[],_=>rfl
 | i,v::r,h=>by
  simp only[FV,List.any_cons,Bool.or_eq_false_iff,beq_eq_false_iff_ne]at h;simp only[FV,g7];rw[if_neg λ e=>h.1 e.symm,Qq j (i+1) r h.2]
theorem QB (σ:JX):C8 σ .any = .any:=rfl
def aC (tm:Tm):List O2->Option (List AV)
 | []=>some []
 | .tmp t::r=>match N6 (tg tm t),aC tm r with
  | some v,some vs=>some (v::vs)
  | _,_=>none
 | .cell _ _ _::_=>none
def lF (N:Nat):List O2->Bool
 | []=>true
 | .tmp t::r=>Nat.blt t N&&lF N r
 | .cell _ _ _::_=>false
def Yv (N:Nat) (fn:AFn) (tm:Tm) (K:AV->Mem->Prop) (cn:Tm) (M':Mem):Prop:=gh N cn=tm /\ ∃ rs,aC cn fn.res=some rs/\K (NF rs) M'
theorem Ap0 {σ:JX} {v u:AV} (h:N6 v=some u):u=v/\C8 σ v=DK σ v/\N6 (C8 σ v)=some (C8 σ v):=by
 cases v<;>simp [N6]at h<;>subst h<;>exact ⟨rfl,rfl,rfl⟩
theorem yQ {σ:JX} {cn:Tm} {M:Mem} {s s':St} (hr:RX σ cn M s') (nz : ∀ j,j<N->g7 s'.tm j=g7 s.tm j) : ∀ {res:List O2} {rs:List AV},lF N res=true->aC cn res=some rs->res.mapM (JT s)=some (rs.map (DK σ)) /\ ∀ v∈rs,C8 σ v=DK σ v
 | [],rs,_,h=>by
  simp only[aC,Option.some.injEq]at h;subst h;exact ⟨rfl,by simp⟩
 | .cell _ _ _::_,_,_,h=>by simp [aC]at h
 | .tmp t::r,rs,hl,h=>by
  simp only[lF,Bool.and_eq_true]at hl;simp only[aC]at h;cases h1:N6 (tg cn t) with
  | none=>rw[h1]at h;simp at h
  | some v =>
   cases h2:aC cn r with
   | none=>rw[h1,h2]at h;simp at h
   | some vs =>
    rw[h1,h2]at h;simp only[Option.some.injEq]at h;subst h;obtain ⟨i1,i2⟩:=yQ hr nz hl.2 h2;obtain ⟨rfl,j2,j3⟩:=Ap0 (σ:=σ) h1;have:g7 s.tm t=C8 σ (tg cn t):=by
     rcases hr.tm t with e|e
     ·rw[e]at h1;cases h1
     ·rw[<-nz t (bA.1 hl.1),e]
    refine ⟨?_,?_⟩
    ·rw[j2]at j3 this
     simp only[List.mapM_cons,JT,this,j3,i1,List.map_cons];rfl
    ·intro v hv
     simp only[List.mem_cons]at hv;rcases hv with rfl|hv
     ·exact j2
     ·exact i2 v hv
theorem Aft {σ:JX} {rs:List AV} (h : ∀ v∈rs,C8 σ v=DK σ v):NF (rs.map (DK σ))=C8 σ (NF rs):=by
 match rs,h with
 | [],_=>rfl
 | [v],h=>exact (h v (by simp)).symm
 | _::_::_,_=>rfl
theorem LE {f:Nat} {fn:AFn} {vs:List AV} {tm:Tm} {M:Mem} {K:AV->Mem->Prop} (N:Nat) (hL:L f=some fn) (hp:Nat.beq vs.length fn.cr=true) (hN:(Nat.ble fn.cr N&&(NR N fn.body&&lF N fn.res))=true)
  (h:AJ L [.code fn.body] (FV 0 vs++LS N tm) M (Yv N fn tm K)):CQ L f vs tm M K:=by
 intro σ own hs;simp only[Bool.and_eq_true]at hN;obtain ⟨n1,n2,n3⟩:=hN;have n1:=Nat.le_of_ble_eq_true n1;have hp:vs.length=fn.cr:=Nat.eq_of_beq_eq_true hp;have Mj:RX σ (FV 0 vs++LS N tm) M ⟨RR (C8 σ) (FV 0 vs++LS N tm),own⟩:=⟨λ j=>Or.inr (by rw[PM];exact PN (QB σ) j _),hs⟩;obtain ⟨n,c,s',hr,σ',cn,M',hR,hg,rs,Mg,hk⟩:=h σ _ Mj;have Ul:Gh N (RR (C8 σ) (LS N tm)) (FV 0 (vs.map (C8 σ))) (RR (C8 σ) (FV 0 vs++LS N tm)):=by
  constructor
  ·intro j hj
   rw[wK,PN (QB σ),PN (QB σ)];rcases mC j (LS N tm) (FV 0 vs) with ⟨_,e⟩|⟨hn,e⟩
   ·rw[e]
   ·rw[e,Qs hj,Qq j 0 vs hn]
  ·intro j hj
   rw[PN (QB σ),PN (QB σ)];rcases mC j (LS N tm) (FV 0 vs) with ⟨hn,e⟩|⟨_,e⟩
   ·have:=wJ j 0 vs hn
    omega
   ·rw[e]
 obtain ⟨s,r1,r2,r3⟩:=N9 n (by simp [Z6,n2]) Ul hr;obtain ⟨i1,i2⟩:=yQ (s:=s) hR r3.lo n3 Mg;refine ⟨NF rs,s.own,σ',M',LU.intro hL (by simpa using hp) ⟨n,c,s,r1,?_,rfl⟩,?_,?_,hk⟩
 ·rw[i1,Option.map_some,Aft i2]
 ·rw[<-r2];exact hR.sat
 ·intro j
  have e1:tg tm j=tg cn (N+j):=by rw[PM,PM,<-hg,Qp]
  rcases hR.tm (N+j) with e|e
  ·rw[e1,e];rfl
  ·rw[e1,<-e,r3.hi (N+j) (by omega),PN (QB σ),Qr,<-PM,e1]
theorem NA {α:Type} {enc:α->List AV} {l:List α} {i:Nat} {vs:List AV} {K:List (List AV)->Prop} (n:Nat) (e:α) (hn:i=n) (he:vs=enc e) (hz : ∀ x,(enc x).length=vs.length) (hi:n<l.length) (h:K ((l.set n e).map enc)):CK (l.map enc) i 0 vs K:=by
 subst hn;exact Aiz e he hz hi h
theorem L6 {x:Int} {len:Nat} {K:Nat->Nat->Prop} (h:Nat) (hx:x=h) (hl:h<=len) (hk:K 0 h):EH none (some x) len K:=⟨0,h,rfl,⟨by omega,by omega,by omega⟩,by omega,hk⟩
theorem Ah4 {x:Int} {len:Nat} {K:Nat->Nat->Prop} (a:Nat) (hx:x=a) (hl:a<=len) (hk:K a len):EH (some x) none len K:=⟨a,len,⟨by omega,by omega⟩,rfl,by omega,hk⟩
end Go.b8

namespace Go.b8
section
variable {K:AV->Prop} {a b:Nat} {k':IntKind}
theorem wrap_u32 (n:Nat):IntKind.u32.wrap (n:Int)=((n%4294967296:Nat):Int):=by rw[IntKind.wrap_u32];omega
theorem ArH (n:Nat):IntKind.u64.wrap (n:Int)=((n%18446744073709551616:Nat):Int):=by
 simp [IntKind.wrap,IntKind.bits,IntKind.signed]
theorem K0 (h:a+b<=18446744073709551615) (hk:K (.int .u64 ((a+b:Nat):Int))):AU .add .u64 (a:Int) .u64 (b:Int) K :=
 ⟨_,by simp only[GF,if_true];rw[IntWalk.u64_in _ (by omega)],by simpa using hk⟩
theorem OM (h:b<=a) (h2:a<=18446744073709551615) (hk:K (.int .u64 ((a-b:Nat):Int))):AU .sub .u64 (a:Int) .u64 (b:Int) K :=
 ⟨_,by simp only[GF,if_true];rw[IntWalk.u64_in _ (by omega)],by rw[show (a:Int)-b=((a-b:Nat):Int) by omega];exact hk⟩
theorem mY (h:b<=18446744073709551616) (hk:K (.int .u64 ((IQ a b:Nat):Int))):AU .sub .u64 (a:Int) .u64 (b:Int) K :=
 mP (v := .int .u64 (IntKind.u64.wrap ((a:Int)-b))) (by simp only[GF,if_true]) (by
  have e:IntKind.u64.wrap ((a:Int)-b)=((IQ a b:Nat):Int):=by
   rw[dH];simp only[IntKind.wrap,IntKind.bits,IntKind.signed];simp;omega
  rw[e];exact hk)
theorem X6 (h:a*b<=18446744073709551615) (hk:K (.int .u64 ((a*b:Nat):Int))):AU .mul .u64 (a:Int) .u64 (b:Int) K :=
 ⟨_,by simp only[GF,if_true];rw[<-Int.natCast_mul,IntWalk.u64_in _ (by omega)],hk⟩
theorem mS (h:0<b) (h2:a<=18446744073709551615) (hk:K (.int .u64 ((a/b:Nat):Int))):AU .quo .u64 (a:Int) .u64 (b:Int) K:=by
 refine ⟨_,by simp only[GF];rw[if_pos ⟨trivial,by omega⟩],?_⟩;rw[IntWalk.u64_quo _ _ ⟨by omega,by omega,by omega⟩,<-Int.natCast_ediv];exact hk
theorem iQ (h:0<b) (hk:K (.int .u64 ((a%b:Nat):Int))):AU .rem .u64 (a:Int) .u64 (b:Int) K:=by
 refine ⟨_,by simp only[GF];rw[if_pos ⟨trivial,by omega⟩],?_⟩;rw[IntWalk.rem_in _ _ (by omega),<-Int.natCast_emod];exact hk
theorem Aqy {k:IntKind} {n:Nat} (hn:n<=k.bits):GF .shl k (a:Int) k' (n:Int)=some (.int k (k.wrap ((a*2^n:Nat):Int))):=by
 simp only[GF];rw[if_neg (by omega),Int.toNat_natCast,Nat.min_eq_left hn];simp
theorem AqB {k:IntKind} {n:Nat} (hn:n<=k.bits):GF .shr k (a:Int) k' (n:Int)=some (.int k ((a/2^n:Nat):Int)):=by
 simp only[GF];rw[if_neg (by omega),Int.toNat_natCast,Nat.min_eq_left hn,Int.fdiv_eq_ediv_of_nonneg _ (Int.le_of_lt (Int.pow_pos (by omega)))];simp
theorem sI {k:IntKind} {n:Nat} (hn:n<=k.bits) (hk:K (.int k (k.wrap ((a*2^n:Nat):Int)))):AU .shl k (a:Int) k' (n:Int) K:=⟨_,Aqy hn,hk⟩
theorem X9 {k:IntKind} {n:Nat} (hn:n<=k.bits) (hk:K (.int k ((a/2^n:Nat):Int))):AU .shr k (a:Int) k' (n:Int) K:=⟨_,AqB hn,hk⟩
theorem WU (h:a<=4294967295) (hk:K (.int .u64 ((a*4294967296:Nat):Int))):AU .shl .u64 (a:Int) k' 32 K:=by
 refine sI (n:=32) (by decide) ?_;rw[ArH,show a*2^32%18446744073709551616=a*4294967296 by omega];exact hk
theorem J2 (hk:K (.int .u64 ((a/4294967296:Nat):Int))):AU .shr .u64 (a:Int) k' 32 K:=X9 (n:=32) (by decide) hk
theorem mT (hk:K (.int .u64 ((a/9223372036854775808:Nat):Int))):AU .shr .u64 (a:Int) k' 63 K:=X9 (n:=63) (by decide) hk
theorem Aim (hk:K (.int .u64 ((a/4:Nat):Int))):AU .shr .u64 (a:Int) k' 2 K:=X9 (n:=2) (by decide) hk
theorem Ail (hk:K (.int .u32 ((a/65536:Nat):Int))):AU .shr .u32 (a:Int) k' 16 K:=X9 (n:=16) (by decide) hk
theorem Ain (hk:K (.int .u32 ((a/256:Nat):Int))):AU .shr .u32 (a:Int) k' 8 K:=X9 (n:=8) (by decide) hk
theorem Aik (hk:K (.int .u32 ((a/2:Nat):Int))):AU .shr .u32 (a:Int) k' 1 K:=X9 (n:=1) (by decide) hk
theorem xW (w n:Nat):(BitVec.ofInt w (n:Int)).toNat=n%2^w:=by rw[BitVec.toNat_ofInt];omega
theorem Apt {n x y:Nat} (hx:x%2^n=0) (hy:y<2^n):x ||| y=x+y:=by
 have e:x=2^n*(x/2^n):=by have:=Nat.mod_add_div x (2^n);omega
 rw[e,<-Nat.two_pow_add_eq_or_of_lt hy]
theorem sH {k:IntKind} (n:Nat) (hx:a%2^n=0) (hy:b<2^n) (h:a+b<2^k.bits) (hw:k.wrap ((a+b:Nat):Int)=((a+b:Nat):Int)) (hk:K (.int k ((a+b:Nat):Int))):AU .or k (a:Int) k (b:Int) K:=by
 refine mP (v := .int k (k.wrap (BitVec.ofInt k.bits (a:Int) ||| BitVec.ofInt k.bits (b:Int)).toNat)) (by simp only[GF,if_true]) ?_;rw[BitVec.toNat_or,xW,xW,Nat.mod_eq_of_lt (by omega),Nat.mod_eq_of_lt (by omega),Apt hx hy,hw];exact hk
theorem X7 (h:a%4294967296=0/\b<4294967296/\a+b<=18446744073709551615) (hk:K (.int .u64 ((a+b:Nat):Int))):AU .or .u64 (a:Int) .u64 (b:Int) K :=
 sH 32 h.1 h.2.1 (show a+b<18446744073709551616 by omega) (IntWalk.u64_in _ (by omega)) hk
theorem Yq (h:a<=18446744073709551615) (hk:K (.int .u64 ((a%4294967296:Nat):Int))):AU .and .u64 (a:Int) .u64 4294967295 K:=by
 refine mP (v := .int .u64 (IntKind.u64.wrap (BitVec.ofInt IntKind.u64.bits (a:Int) &&& BitVec.ofInt IntKind.u64.bits 4294967295).toNat)) (by simp only[GF,if_true]) ?_;rw[BitVec.toNat_and,xW,show (BitVec.ofInt IntKind.u64.bits 4294967295).toNat=2^32-1 by decide,Nat.and_two_pow_sub_one_eq_mod,show a%2^IntKind.u64.bits=a from Nat.mod_eq_of_lt (show a<18446744073709551616 by omega),IntWalk.u64_in _ (by omega)];exact hk
theorem Yp (hk:K (.int .u32 (((a+b)%4294967296:Nat):Int))):AU .add .u32 (a:Int) .u32 (b:Int) K :=
 mP (v := .int .u32 (IntKind.u32.wrap ((a:Int)+b))) (by simp only[GF,if_true]) (by rw[<-Int.natCast_add,wrap_u32];exact hk)
end
section
variable {K:Int->Prop} {n:Nat}
theorem Yd (h:n<=18446744073709551615) (hk:K (n:Int)):B6 .u64 (n:Int) K:=iJ (IntWalk.u64_in _ (by omega)) hk
theorem II (h:n<=4294967295) (hk:K (n:Int)):B6 .u32 (n:Int) K:=iJ (IntWalk.u32_in _ (by omega)) hk
theorem KQ (hk:K ((n%4294967296:Nat):Int)):B6 .u32 (n:Int) K:=⟨by rw[wrap_u32];exact hk⟩
theorem Aia (h:n<=255) (hk:K (n:Int)):B6 .u8 (n:Int) K:=iJ (IntWalk.u8_in _ (by omega)) hk
end
theorem nE {tb:List Nat} {n v:Nat} {K:Nat->Prop} (hv:tb[n]? = some v) (hk:K v):aW tb (n:Int) K:=⟨by omega,v,by rw[Int.toNat_natCast];exact hv,hk⟩
abbrev BF (n:Nat):List AV:=[.int .u32 (n:Int)]
theorem GC (l:List Nat):IH (l.map BF):=ZR (λ_=>by simp [EC,B3]) l
section
variable {l:List Nat} {K:List AV->Prop}
theorem nA {n:Nat} (hD:B9 l) (hn:n<l.length) (h : ∀ e,l[n]? = some e->e<4294967296->K (BF e)):BR (l.map BF) (n:Int) 1 K :=
 MD hn (λ_=>rfl) λ e he=>h e he (hD.at he)
theorem ZJ {a:Int} (hD:B9 l) (hn:0<=a/\a<l.length) (h : ∀ e,l[a.toNat]? = some e->e<4294967296->K (BF e)):BR (l.map BF) a 1 K :=
 iR hn (λ_=>rfl) λ e he=>h e he (hD.at he)
theorem Ym {i:Nat} (hD:B9 l) (hi:i<l.length) (h : ∀ e,l[i]? = some e->e<4294967296->K (BF e)):C1 (l.map BF) (0+((i:Int)).toNat) 0 1 K :=
 dT (f:=BF) hi (λ_=>rfl) λ e he=>h e he (hD.at he)
theorem aU {i:Int} (hD:B9 l) (hi:0<=i/\i<l.length) (h : ∀ e,l[i.toNat]? = some e->e<4294967296->K (BF e)):C1 (l.map BF) (0+i.toNat) 0 1 K :=
 WS (f:=BF) hi (λ_=>rfl) λ e he=>h e he (hD.at he)
theorem JW {i v:Nat} {KK:List (List AV)->Prop} (hi:i<l.length) (h:KK ((l.set i v).map BF)):CK (l.map BF) (0+((i:Int)).toNat) 0 [.int .u32 (v:Int)] KK:=KS (enc:=BF) v rfl (λ_=>rfl) hi h
theorem nD {i v:Nat} {KK:List (List AV)->Prop} (n:Nat) (hn:i=n) (hi:n<l.length) (h:KK ((l.set n v).map BF)):CK (l.map BF) i 0 [.int .u32 (v:Int)] KK:=NA (enc:=BF) n v hn rfl (λ_=>rfl) hi h
end
end Go.b8
namespace Go.b8
variable {L:Lib}
theorem Ev.xE {f:Nat} {fn:AFn} {vs:List AV} {P:AV->Prop} (hL:L f=some fn) (hp:Nat.beq vs.length fn.cr=true) (hd:PX vs=true) (h:AJ L [.code fn.body] (FV 0 vs) [] (λ tm M => ∃ r,YB fn r tm M/\P r)) (hs:fn.uh=false:=by rfl) : ∃ r,Ev L f vs r/\P r:=by
 obtain ⟨n,c,k8,hr,σ,tm,M,hR,r,hq,hP⟩:=h (λ_ _=>(0,0)) ⟨FV 0 vs,BD.emp⟩ ⟨λ j=>Or.inr (by rw[PM];exact jJ hd j),⟨(λ_ _ _ e=>by cases e),(λ_ _ _ e=>by simp [b9,c4]at e),(λ_ _ _ e=>by simp [b9,c4]at e),(λ_ _ _ _ _ _ e=>by simp [b9,c4]at e),(λ_ _ _ e=>by simp [b9,c4]at e)⟩⟩;exact ⟨r,Ev.fwd hL (EF.1 hp) ⟨n,c,k8,hr,Yw hR hq⟩ hs,hP⟩
def gI:H0->Bool
 | .bu .. | .box .. | .alloc .. | .a8 .. | .st .. | .mk .. | .app .. | .pz .. | .e8 .. | .q8 .. | .te .. | .q6 .. | .dh .. => false
 | _=>true
def NS:DD->Bool
 | .skip=>true
 | .ops l _=>l.all λ a=>gI a.op
 | .dr c _ ss=>NS c&&ss.isEmpty
 | .scope c=>NS c
 | .seq a b=>NS a&&NS b
 | .cond _ a b=>NS a&&NS b
 | .block _ c=>NS c
 | .loop c=>NS c
 | .exit _=>true
 | .ret=>true
def YT:It->Bool
 | .code c=>NS c
 | .rm _ ss=>ss.isEmpty
 | .c9 _=>true
 | .lp c=>NS c
theorem AlA {C:Cl} {b7:List Nat} {ρ:BL->AV} {own:BD} {op:H0} {E:FB} (ho:gI op=true) (h:e9 C b7 ρ own op=some E) : ∃ v,E = .val v:=by
 cases op<;>first|(simp [gI]at ho;done)|skip
 all_goals simp only[e9]at h
 all_goals
  first
   | (simp only[Option.some.injEq]at h;exact ⟨_,h.symm⟩)
   | (simp only[Option.map_eq_some_iff]at h;obtain ⟨_,_,rfl⟩:=h;exact ⟨_,rfl⟩)
   | skip
 all_goals (repeat' split at h)
 all_goals
  first
   | (cases h;done)
   | (simp only[Option.some.injEq]at h;exact ⟨_,h.symm⟩)
   | (simp only[Option.map_eq_some_iff]at h;obtain ⟨_,_,rfl⟩:=h;exact ⟨_,rfl⟩)
theorem AqT {C:Cl} {a:AI} (ho:gI a.op=true) {s s':St} (h:F9 C a s=some s'):s'.own=s.own:=by
 unfold F9 at h;split at h
 ·cases he:e9 C a.b7 s.ev s.own a.op with
  | none=>rw[he]at h;cases h
  | some E =>
   rw[he]at h;obtain ⟨v,rfl⟩:=AlA ho he;simp only[Option.map_some,Option.some.injEq]at h;subst h;simp only[St.app];cases a.dst<;>rfl
 ·simp only[Option.some.injEq]at h
  subst h;cases a.dst<;>rfl
 ·cases h
theorem Agk {C:Cl} : ∀ {l:List AI},(l.all λ a=>gI a.op)=true -> ∀ {s s':St},G1 C l s=some s'->s'.own=s.own
 | [],_,s,s',h=>by simp only[G1,Option.some.injEq]at h;rw[h]
 | a::l,ho,s,s',h=>by
  simp only[List.all_cons,Bool.and_eq_true]at ho;simp only[G1]at h;cases h1:F9 C a s with
  | none=>rw[h1]at h;cases h
  | some s1 =>
   rw[h1]at h;rw[Agk ho.2 h,AqT ho.1 h1]
theorem kD {id:Nat} : ∀ {k k':List It},k.all YT=true->J7 id k=some k'->k'.all YT=true
 | [],_,_,h=>by simp [J7]at h
 | it::k,k',hk,h=>by
  simp only[List.all_cons,Bool.and_eq_true]at hk;cases it with
  | c9 i =>
   simp only[J7]at h;split at h
   ·cases h;exact hk.2
   ·exact kD hk.2 h
  | code c=>simp only[J7]at h;exact kD hk.2 h
  | rm a b=>simp only[J7]at h;exact kD hk.2 h
  | lp c=>simp only[J7]at h;exact kD hk.2 h
theorem OA {C:Cl} : ∀ (n:Nat) {k:List It},k.all YT=true -> ∀ {s s':St},run C n k s=some s'->s'.own=s.own
 | 0,k,_,s,s',h=>by simp [run]at h
 | n+1,[],_,s,s',h=>by
  simp only[run,Option.some.injEq]at h;rw[h]
 | n+1,it::k,hk,s,s',h=>by
  have lj:=hk;simp only[List.all_cons,Bool.and_eq_true]at hk;obtain ⟨hi,hk⟩:=hk;cases it with
  | c9 _=>simp only[run]at h;exact OA n hk h
  | rm ts ss =>
   have:ss=[]:=by simpa [YT] using hi
   subst this;simp only[run]at h;rw[OA n hk h];rfl
  | lp c=>simp only[run]at h;exact OA n (by simp only[List.all_cons,Bool.and_eq_true];exact ⟨hi,hi,hk⟩) h
  | code c =>
   cases c with
   | skip=>simp only[run]at h;exact OA n hk h
   | ops l d =>
    simp only[run]at h;cases h1:G1 C l s with
    | none=>rw[h1]at h;cases h
    | some s1 =>
     rw[h1]at h;rw[OA n hk h,Agk (show (l.all λ a=>gI a.op)=true from hi) h1]
   | dr c ts ss =>
    simp only[run]at h;simp only[YT,NS,Bool.and_eq_true]at hi;exact OA n (by simp only[List.all_cons,Bool.and_eq_true];exact ⟨hi.1,hi.2,hk⟩) h
   | scope c=>simp only[run]at h;exact OA n (by simp only[List.all_cons,Bool.and_eq_true];exact ⟨hi,hk⟩) h
   | seq a b =>
    simp only[run]at h;simp only[YT,NS,Bool.and_eq_true]at hi;exact OA n (by simp only[List.all_cons,Bool.and_eq_true];exact ⟨hi.1,hi.2,hk⟩) h
   | cond x a b =>
    simp only[YT,NS,Bool.and_eq_true]at hi;simp only[run]at h;split at h
    ·exact OA n (by simp only[List.all_cons,Bool.and_eq_true];exact ⟨hi.1,hk⟩) h
    ·exact OA n (by simp only[List.all_cons,Bool.and_eq_true];exact ⟨hi.2,hk⟩) h
    ·cases h
   | block id c=>simp only[run]at h;exact OA n (by simp only[List.all_cons,Bool.and_eq_true];exact ⟨hi,rfl,hk⟩) h
   | loop c=>simp only[run]at h;exact OA n (by simp only[List.all_cons,Bool.and_eq_true];exact ⟨hi,hi,hk⟩) h
   | exit id =>
    simp only[run]at h;split at h
    ·rename_i k' he
     exact OA n (kD hk he) h
    ·cases h
   | ret =>
    simp only[run,Option.some.injEq]at h;rw[h]
def Aiw (fn:AFn) (r:AV) (tm:Tm) (_M:Mem):Prop := ∃ rs,aC tm fn.res=some rs/\NF rs=r
def oB:AV->Bool
 | .g8 vs=>PX vs
 | v=>ZT v
theorem AbM {σ:JX} {v:AV} (h:oB v=true):C8 σ v=v:=by
 cases v with
 | g8 vs =>
  simp only[C8];congr 1;simp only[oB]at h;induction vs with
  | nil=>rfl
  | cons v r ih =>
   simp only[PX]at h;cases hv:ZT v<;>simp only[hv,cond_true,cond_false]at h
   ·cases h
   ·rw[List.map_cons,ih h]
    congr 1;cases v<;>first|rfl|(simp [ZT,ya]at hv;done)|skip
    rename_i cs;exact oA (σ:=σ) (v := .agg cs) hv
 | _=>exact oA (σ:=σ) h
def iT (L:Lib) (f:Nat) (vs:List AV) (r:AV):Prop:=oB r=true/\(∀ σ:JX,vs.map (C8 σ)=vs) /\ ∀ own:BD,LU L f vs own r own
theorem Zz {σ:JX} : ∀ {vs:List AV},PX vs=true->vs.map (C8 σ)=vs
 | [],_=>rfl
 | v::r,h=>by
  simp only[PX]at h;cases hv:ZT v<;>simp only[hv,cond_true,cond_false]at h
  ·cases h
  ·rw[List.map_cons,oA hv,Zz h]
theorem Aix {f:Nat} {fn:AFn} {vs:List AV} {r:AV} (hL:L f=some fn) (hp:Nat.beq vs.length fn.cr=true) (hd:PX vs=true) (Ci:NS fn.body=true) (l7:lF 100000 fn.res=true) (hr:oB r=true) (h:AJ L [.code fn.body] (FV 0 vs) [] (Aiw fn r)):iT L f vs r:=by
 refine ⟨hr,λ σ=>Zz hd,λ own => ?_⟩;obtain ⟨n,c,k8,w4,σ,tm,M,hR,rs,Mg,he⟩:=h (λ_ _=>(0,0)) ⟨FV 0 vs,own⟩ ⟨λ j=>Or.inr (by rw[PM];exact jJ hd j),⟨(λ_ _ _ e=>by cases e),(λ_ _ _ e=>by simp [b9,c4]at e),(λ_ _ _ e=>by simp [b9,c4]at e),(λ_ _ _ _ _ _ e=>by simp [b9,c4]at e),(λ_ _ _ e=>by simp [b9,c4]at e)⟩⟩;have ho:=OA n (by simp [YT,Ci]) w4;obtain ⟨i1,i2⟩:=yQ (N:=100000) (s:=k8) hR (λ_ _=>rfl) l7 Mg;refine LU.intro hL (EF.1 hp) ⟨n,c,k8,w4,?_,ho⟩;rw[i1,Option.map_some,Aft i2,he,AbM hr]
theorem PQ {f:Nat} {vs:List AV} {r:AV} {tm:Tm} {M:Mem} {K:AV->Mem->Prop} (h:iT L f vs r) (hk:K r M):CQ L f vs tm M K:=by
 intro σ own hs;refine ⟨r,own,σ,M,?_,hs,λ_=>rfl,hk⟩;rw[h.2.1 σ,AbM h.1];exact h.2.2 own
end Go.b8

namespace Go.b8
variable {L:Lib}
def sL (fn:AFn) (z:Nat) (es:List (List AV)) (tm:Tm) (M:Mem):Prop:=match fn.res with
 | [.tmp t]=>match tg tm t with
  | .row k 0 z' 0 n=>match c4 M k with
   | some (_,.rw ft es')=>z'=z/\ft=z/\n=es.length/\es'=es/\IH es
   | _=>False
  | _=>False
 | _=>False
theorem NM.x {f:Nat} {fn:AFn} {vs:List AV} {z:Nat} {es:List (List AV)} (hL:L f=some fn) (hp:Nat.beq vs.length fn.cr=true) (hd:PX vs=true) (h:AJ L [.code fn.body] (FV 0 vs) [] (sL fn z es)):NM L f vs z es:=by
 obtain ⟨n,c,k8,hr,σ,tm,M,hR,hq⟩:=h (λ_ _=>(0,0)) ⟨FV 0 vs,BD.emp⟩ ⟨λ j=>Or.inr (by rw[PM];exact jJ hd j),⟨(λ_ _ _ e=>by cases e),(λ_ _ _ e=>by simp [b9,c4]at e),(λ_ _ _ e=>by simp [b9,c4]at e),(λ_ _ _ _ _ _ e=>by simp [b9,c4]at e),(λ_ _ _ e=>by simp [b9,c4]at e)⟩⟩;unfold sL at hq;split at hq
 ·rename_i t oe
  split at hq
  ·rename_i k z' m Ej
   split at hq
   ·rename_i s ft es' hM
    obtain ⟨rfl,rfl,rfl,rfl,o6⟩:=hq;have hv:g7 k8.tm t = .row (σ k 0).1 (σ k 0).2 ft 0 es'.length:=by
     rcases hR.tm t with e|e
     ·rw[Ej]at e;cases e
     ·rw[e,Ej];rfl
    have hb:=hR.sat.c9 k 0 (.rw ft es') (by simp only[b9,hM]);obtain ⟨q,hq⟩:=LU.intro (r := .row (σ k 0).1 (σ k 0).2 ft 0 es'.length) (o':=k8.own) hL (EF.1 hp) ⟨n,c,k8,hr,by simp [oe,JT,hv,N6,NF],rfl⟩;refine ⟨q,?_⟩;simp only[hq,W4,BD.get,hb];rw[if_pos (show (C3.c9 σ k (.rw ft es')).es.length=es'.length/\IH (C3.c9 σ k (.rw ft es')).es from ⟨rfl,o6⟩)];rfl
   ·exact hq.elim
  ·exact hq.elim
 ·exact hq.elim
theorem Ahu {Q:Tm->Mem->Prop} {c:DD} {k:List It} {tm:Tm} {M:Mem} (n:Nat) (h:fT (Aq 0 tm) λ tm=>fW M λ M=>XK L Q n (.code c::k) tm M):AJ L (.code c::k) tm M Q:=by
 rw[fD,pM]at h;exact Zb (sR h)
theorem WR {α:Type} {enc:α->List AV} {l:List α} {f z:Nat} {vs:List AV} {K:Nat->List (List AV)->Nat->Prop} (n:Nat) (h:NM L f vs z (l.map enc)) (hn:n=l.length) (hk:K z (l.map enc) n):FZ L f vs K:=⟨z,_,n,h,by simpa using hn,hk⟩
end Go.b8

namespace Go.b8
def gN (N:Nat):List O2->Bool
 | []=>true
 | .tmp t::r=>Nat.blt t N&&gN N r
 | .cell t _ _::r=>Nat.blt t N&&gN N r
theorem yS {N:Nat} {s s':St} (ho:s.own=s'.own) (nz : ∀ j,j<N->g7 s'.tm j=g7 s.tm j) : ∀ {res:List O2},gN N res=true->res.mapM (JT s)=res.mapM (JT s')
 | [],_=>rfl
 | .tmp t::r,h=>by
  simp only[gN,Bool.and_eq_true]at h;have:=yS ho nz h.2
  simp only[List.mapM_cons,JT,nz t (bA.1 h.1),this]
 | .cell t agg n::r,h=>by
  simp only[gN,Bool.and_eq_true]at h;have:=yS ho nz h.2
  simp only[List.mapM_cons,JT,nz t (bA.1 h.1),this,ho]
def Aiv (N:Nat) (fn:AFn) (tm:Tm) (K:AV->Mem->Prop) (cn:Tm) (M':Mem):Prop:=gh N cn=tm/\qJ cn M' fn.res (λ rs=>rsv rs λ v=>K v M')
theorem JV {L:Lib} {f:Nat} {fn:AFn} {vs:List AV} {tm:Tm} {M:Mem} {K:AV->Mem->Prop} (N:Nat) (hL:L f=some fn) (hp:Nat.beq vs.length fn.cr=true) (hN:(Nat.ble fn.cr N&&(NR N fn.body&&gN N fn.res))=true)
  (h:AJ L [.code fn.body] (FV 0 vs++LS N tm) M (Aiv N fn tm K)):CQ L f vs tm M K:=by
 intro σ own hs;simp only[Bool.and_eq_true]at hN;obtain ⟨n1,n2,n3⟩:=hN;have n1:=Nat.le_of_ble_eq_true n1;have hp:vs.length=fn.cr:=Nat.eq_of_beq_eq_true hp;have Mj:RX σ (FV 0 vs++LS N tm) M ⟨RR (C8 σ) (FV 0 vs++LS N tm),own⟩:=⟨λ j=>Or.inr (by rw[PM];exact PN (QB σ) j _),hs⟩;obtain ⟨n,c,s',hr,σ',cn,M',hR,hg,oe⟩:=h σ _ Mj;have Ul:Gh N (RR (C8 σ) (LS N tm)) (FV 0 (vs.map (C8 σ))) (RR (C8 σ) (FV 0 vs++LS N tm)):=by
  constructor
  ·intro j hj
   rw[wK,PN (QB σ),PN (QB σ)];rcases mC j (LS N tm) (FV 0 vs) with ⟨_,e⟩|⟨hn,e⟩
   ·rw[e]
   ·rw[e,Qs hj,Qq j 0 vs hn]
  ·intro j hj
   rw[PN (QB σ),PN (QB σ)];rcases mC j (LS N tm) (FV 0 vs) with ⟨hn,e⟩|⟨_,e⟩
   ·have:=wJ j 0 vs hn
    omega
   ·rw[e]
 obtain ⟨s,r1,r2,r3⟩:=N9 n (by simp [Z6,n2]) Ul hr;obtain ⟨rs,i1,i2,i3⟩:=yR hR oe;rw[<-yS (s:=s) r2.symm r3.lo n3,i3]at i1;have key : ∃ r,NF (rs.map (DK σ'))=C8 σ' r/\K r M':=by
  match rs,i2,i3 with
  | [],h,_=>exact ⟨.g8 [],rfl,h⟩
  | [v],h,e =>
   simp only[List.map_cons,List.map_nil,List.cons.injEq,and_true]at e;exact ⟨v,by simp only[List.map_cons,List.map_nil,NF];exact e.symm,h⟩
  | a::b::l,h,_=>exact ⟨.g8 (a::b::l),rfl,h⟩
 obtain ⟨r,k1,k2⟩:=key;refine ⟨r,s.own,σ',M',LU.intro hL (by simpa using hp) ⟨n,c,s,r1,?_,rfl⟩,?_,?_,k2⟩
 ·rw[i1,Option.map_some,k1]
 ·rw[<-r2];exact hR.sat
 ·intro j
  have e1:tg tm j=tg cn (N+j):=by rw[PM,PM,<-hg,Qp]
  rcases hR.tm (N+j) with e|e
  ·rw[e1,e];rfl
  ·rw[e1,<-e,r3.hi (N+j) (by omega),PN (QB σ),Qr,<-PM,e1]
theorem AeR (σ:JX) (k:Nat) : ∀ (n i:Nat),FC σ k i (List.replicate n none)=List.replicate n [.nil]
 | 0,_=>rfl
 | n+1,i=>by
  rw[List.replicate_succ,List.replicate_succ];show [AV.nil]::FC σ k (i+1) (List.replicate n none)=_;rw[AeR σ k n (i+1)]
theorem Aht {L:Lib} {kk:List It} {tm:Tm} {M:Mem} {Q:Tm->Mem->Prop} (k s n:Nat) (e:c4 M k=some (s,.mx (List.replicate n none))) (h:AJ L kk tm ((k,s,.rw 1 (List.replicate n [.nil]))::M) Q):AJ L kk tm M Q:=by
 intro σ st hr;have hg : ∀ j t c,b9 ((k,s,.rw 1 (List.replicate n [.nil]))::M) j t=some c -> ∃ c0,b9 M j t=some c0/\c0.c9 σ j=c.c9 σ j:=by
  intro j t c g;by_cases hj:j=k
  ·subst hj
   cases t with
   | zero =>
    have h1:c4 ((j,s,C3.rw 1 (List.replicate n [.nil]))::M) j=some (s,.rw 1 (List.replicate n [.nil])):=by simp [c4]
    simp only[b9,h1,Option.some.injEq]at g;subst g;refine ⟨.mx (List.replicate n none),by simp only[b9,e],?_⟩;simp only[C3.c9,AeR]
   | succ i =>
    have h1:c4 ((j,s,C3.rw 1 (List.replicate n [.nil]))::M) j=some (s,.rw 1 (List.replicate n [.nil])):=by simp [c4]
    simp only[b9,h1]at g;cases g
  ·have h1:c4 ((k,s,C3.rw 1 (List.replicate n [.nil]))::M) j=c4 M j:=by
    have hb:Nat.beq j k=false:=by
     cases rz:Nat.beq j k with
     | false=>rfl
     | true=>exact absurd (Nat.eq_of_beq_eq_true rz) hj
    simp only[c4,hb,cond_false]
   refine ⟨c,?_,rfl⟩;simp only[b9,h1]at g ⊢;exact g
 refine h σ st ⟨hr.tm,⟨?_,?_,?_,?_,?_⟩⟩
 ·intro j s' c g
  by_cases hj:j=k
  ·subst hj
   have h1:c4 ((j,s,C3.rw 1 (List.replicate n [.nil]))::M) j=some (s,.rw 1 (List.replicate n [.nil])):=by simp [c4]
   rw[h1]at g;simp only[Option.some.injEq,Prod.mk.injEq]at g;obtain ⟨rfl,_⟩:=g;exact hr.sat.site _ _ _ e
  ·have h1:c4 ((k,s,C3.rw 1 (List.replicate n [.nil]))::M) j=c4 M j:=by
    have hb:Nat.beq j k=false:=by
     cases rz:Nat.beq j k with
     | false=>rfl
     | true=>exact absurd (Nat.eq_of_beq_eq_true rz) hj
    simp only[c4,hb,cond_false]
   rw[h1]at g;exact hr.sat.site _ _ _ g
 ·intro j t c g
  obtain ⟨c0,q1,q2⟩:=hg j t c g;rw[<-q2];exact hr.sat.c9 _ _ _ q1
 ·intro j t c g
  obtain ⟨c0,q1,_⟩:=hg j t c g;exact hr.sat.old _ _ _ q1
 ·intro j t j' t' c c' g g' hσ
  obtain ⟨c0,q1,_⟩:=hg j t c g;obtain ⟨c1,q2,_⟩:=hg j' t' c' g';exact hr.sat.inj _ _ _ _ _ _ q1 q2 hσ
 ·intro j t c g hw
  cases t with
  | zero =>
   by_cases hj:j=k
   ·subst hj;exact hr.sat.low _ _ _ (IJ e) rfl
   ·rw[XP hj]at g;exact hr.sat.low _ _ _ g hw
  | succ t =>
   obtain ⟨c0,q1,_⟩:=hg _ _ _ g;exact hr.sat.low _ _ _ q1 (xM q1)
end Go.b8

namespace Go.b8
theorem Ahe {A w C:List Nat} {i n:Nat} (hi:i=A.length+n) (hn:n<w.length):(A++w++C)[i]? = w[n]? := by
 subst hi;rw[List.append_assoc,List.getElem?_append_right (by omega),Nat.add_sub_cancel_left,List.getElem?_append_left hn]
theorem ArB {A w C:List Nat} {i n v:Nat} (hi:i=A.length+n) (hn:n<w.length):(A++w++C).set i v=A++w.set n v++C:=by
 subst hi;rw[List.append_assoc,List.set_append_right _ _ (by omega),Nat.add_sub_cancel_left,List.set_append_left _ _ hn,List.append_assoc]
theorem W0 {A w C:List Nat} {i v:Nat} {KK:List (List AV)->Prop} (n:Nat) (hi:i=A.length+n) (hn:n<w.length) (h:KK ((A++w.set n v++C).map BF)):CK ((A++w++C).map BF) i 0 [.int .u32 (v:Int)] KK:=by
 have hl:i<(A++w++C).length:=by simp;omega
 refine NA (enc:=BF) i v rfl rfl (λ_=>rfl) hl ?_;rw[ArB hi hn];exact h
theorem Ao0 {W X Vi p q u d c b pr t:Nat} (h:W+q*Vi=X+p*(c+b)) (xg:pr=q*d+c) (ht:t=IQ (IQ u (pr%4294967296)) b) (hu:u<4294967296) (hb:b<=1) :
  W+p*(t%4294967296)+q*(Vi+p*d)=X+p*u+p*4294967296*(pr/4294967296+t/9223372036854775808):=by
 obtain ⟨h1,_⟩:=rL hu (show pr%4294967296<4294967296 by omega) hb;rw[<-ht]at h1;have h2:=Nat.mod_add_div pr 4294967296;generalize t%4294967296=w at *;generalize t/9223372036854775808=b' at *;generalize pr%4294967296=pl at *;generalize pr/4294967296=ph at *;have e1:p*(w+pl+b)=p*(u+4294967296*b'):=by rw[h1]
 have e2:p*(pl+4294967296*ph)=p*(q*d+c):=by rw[h2,xg]
 grind
theorem AeP {q d c pr:Nat} (hq:q<4294967296) (hd:d<4294967296) (hc:c<4294967296) (xg:pr=q*d+c):pr/4294967296<4294967296/\pr<=18446744073709551615/\q*d<=18446744065119617025:=by
 have:=gA hq hd
 omega
theorem AoY {W X V p q u c b t:Nat} (h:W+q*V=X+p*(c+b)) (ht:t=IQ (IQ u c) b) (hu:u<4294967296) (hc:c<4294967296) (hb:b<=1) :
  W+p*(t%4294967296)+q*V=X+p*u+p*4294967296*(t/9223372036854775808):=by
 obtain ⟨h1,_⟩:=rL hu hc hb;rw[<-ht]at h1;generalize t%4294967296=w at *;generalize t/9223372036854775808=b' at *;have e1:p*(w+c+b)=p*(u+4294967296*b'):=by rw[h1]
 grind
theorem Ao1 {W X Vi p q u d c b pr w take have' dn:Nat} (h:W+q*Vi=X+p*(c+b)) (xg:pr=c+q*d) (h1:take=pr%4294967296+b) (h2:(have'=u/\dn=0/\take<=u)\/(have'=u+4294967296/\dn=1/\u<take)) (h3:w+take=have') :
  W+p*w+q*(Vi+p*d)=X+p*u+p*4294967296*(pr/4294967296+dn):=by
 have h4:=Nat.mod_add_div pr 4294967296;have h5:w+pr%4294967296+b=u+4294967296*dn:=by omega
 generalize pr%4294967296=pl at *;generalize pr/4294967296=ph at *;have e1:p*(w+pl+b)=p*(u+4294967296*dn):=by rw[h5]
 have e2:p*(pl+4294967296*ph)=p*(c+q*d):=by rw[h4,xg]
 grind
theorem AoZ {W X V p q u c b w take have' dn:Nat} (h:W+q*V=X+p*(c+b)) (h1:take=c+b) (h2:(have'=u/\dn=0/\take<=u)\/(have'=u+4294967296/\dn=1/\u<take)) (h3:w+take=have') :
  W+p*w+q*V=X+p*u+p*4294967296*dn:=by
 have h5:w+c+b=u+4294967296*dn:=by omega
 have e1:p*(w+c+b)=p*(u+4294967296*dn):=by rw[h5]
 grind
theorem Xu {W X Vi p w d c t:Nat} (h:W+p*c=X+Vi) (ht:t=w+d+c):W+p*(t%4294967296)+p*4294967296*(t/4294967296)=X+p*w+(Vi+p*d):=by
 have h1:=YD W p t;have e:p*t=p*w+p*d+p*c:=by rw[ht];grind
 omega
theorem Xt {W X V R p w c:Nat} (h:W+p*c=X+V) (hX:X+p*w+V=R+p*4294967296) (hR:R<p*4294967296) (hW:W<p):W+p*((w+c)%4294967296)=R:=by
 have h1:W+p*(w+c)=R+p*4294967296:=by
  rw[Nat.mul_add];omega
 have h2:=Nat.mod_add_div (w+c) 4294967296;have h3:p*(w+c)=p*((w+c)%4294967296)+p*4294967296*((w+c)/4294967296):=by
  rw[Nat.mul_assoc,<-Nat.mul_add,h2]
 have h4:(w+c)%4294967296<4294967296:=Nat.mod_lt _ (by omega);generalize (w+c)%4294967296=m at *;generalize (w+c)/4294967296=k at *;have h5:W+p*m<p*4294967296:=by
  have:p*m+p<=p*4294967296:=by rw[<-Nat.mul_succ];exact Nat.mul_le_mul_left p (by omega)
  omega
 have h6:k=1:=by
  rcases Nat.lt_trichotomy k 1 with hk|hk|hk
  ·have:k=0:=by omega
   subst this;omega
  ·exact hk
  ·have:p*4294967296*2<=p*4294967296*k:=Nat.mul_le_mul_left _ (by omega)
   omega
 subst h6;omega
theorem Arf {U V UL VL p u2 v2 v1 top:Nat} (hU:U=UL+p*(u2+4294967296*top)) (hV:V=VL+p*(v2+4294967296*v1)) (Fg:VL<p) (h2:v2<4294967296) (h:U<4294967296*V):top<4294967296*(v1+1):=by
 have h3:V<p*(4294967296*(v1+1)):=by
  have:p*(v2+4294967296*v1)+p<=p*(4294967296*(v1+1)):=by
   rw[<-Nat.mul_succ];exact Nat.mul_le_mul_left p (by omega)
  omega
 have h4:p*(4294967296*top)<=U:=by
  have:p*(4294967296*top)<=p*(u2+4294967296*top):=Nat.mul_le_mul_left p (by omega)
  omega
 have h5:p*(4294967296*top)<p*(4294967296*(4294967296*(v1+1))):=by
  have:p*(4294967296*(4294967296*(v1+1)))=4294967296*(p*(4294967296*(v1+1))):=by grind
  omega
 have:=Nat.lt_of_mul_lt_mul_left h5
 omega
structure Gs (U V v1 v2 u2 top q r:Nat):Prop where
 hq:q*v1+r=top
 hr:r<4294967296
 ge:U/V<=q
theorem Gs.next {U V UL VL p v1 v2 u2 top q r:Nat} (g:Gs U V v1 v2 u2 top q r) (hU:U=UL+p*(u2+4294967296*top)) (hV:V=VL+p*(v2+4294967296*v1)) (Hv:UL<p) (cj:0<V) (Oe:U<4294967296*V)
  (h:4294967296<=q\/r*4294967296+u2<q*v2):1<=q/\(q-1)*v1+(r+v1)=top/\U/V<=q-1:=by
 have h1:U/V<q:=by
  rcases h with h|h
  ·exact AnD Oe h cj
  ·exact AnE hU hV Hv g.hq h cj
 have hq:=g.hq;clear h g hU hV Oe;generalize U/V=Q at *;obtain ⟨k,rfl⟩ : ∃ k,q=k+1:=⟨q-1,by omega⟩;refine ⟨by omega,?_,by omega⟩;rw[Nat.add_sub_cancel,<-hq,Nat.add_mul];omega
theorem Gs.start {U V UL VL p v1 v2 u2 top:Nat} (hU:U=UL+p*(u2+4294967296*top)) (hV:V=VL+p*(v2+4294967296*v1)) (Hv:UL<p) (h2:u2<4294967296) (cj:0<V) (h1:0<v1) (h1b:v1<4294967296):Gs U V v1 v2 u2 top (top/v1) (top%v1):=by
 refine ⟨by rw[Nat.mul_comm];exact Nat.div_add_mod _ _,?_,?_⟩
 ·have:=Nat.mod_lt top h1
  omega
 ·rw[Nat.le_div_iff_mul_le h1]
  exact AnF hU hV Hv h2 cj
theorem fP {U V UL VL p v1 v2 u2 top q r:Nat} (hU:U=UL+p*(u2+4294967296*top)) (hV:V=VL+p*(v2+4294967296*v1)) (Fg:VL<p) (Po:2147483648<=v1) (Pp:v2<4294967296) (Oe:U<4294967296*V) (hq:q*v1+r=top)
  (h:(q<4294967296/\q*v2<=r*4294967296+u2)\/4294967296<=r):q<4294967296/\q<=U/V+1:=by
 rcases h with ⟨h1,h2⟩|h
 ·exact ⟨h1,AdM hU hV Fg Po hq h2 h1⟩
 ·have ht:=Arf hU hV Fg Pp Oe
  have Az:q<4294967296:=by
   have h3:q*v1<4294967296*v1:=by omega
   exact Nat.lt_of_mul_lt_mul_right h3
  refine ⟨Az,AdM hU hV Fg Po hq ?_ Az⟩;have:=gA Az Pp
  omega
theorem dG (a:List Nat) (k:Nat):val a=val (a.take k)+4294967296^k*val (a.drop k):=by
 rcases Nat.lt_or_ge a.length k with h|h
 ·rw[zT (by omega),List.drop_of_length_le (by omega),OH];omega
 ·exact PO a k h
theorem dF (a:List Nat) (k:Nat):val (a.drop k)=a.getD k 0+4294967296*val (a.drop (k+1)):=by
 rcases Nat.lt_or_ge k a.length with h|h
 ·rw[MN (zE h),List.getD_eq_getElem?_getD,zE h];rfl
 ·rw[List.drop_of_length_le h,List.drop_of_length_le (by omega),List.getD_eq_getElem?_getD,List.getElem?_eq_none h];rfl
theorem Z4 {a:List Nat} (h:B9 a) (k:Nat):a.getD k 0<4294967296:=by
 rw[List.getD_eq_getElem?_getD];cases e:a[k]? with
 | none=>simp
 | some d=>simpa using h.at e
theorem getD_some {a:List Nat} {k d:Nat} (h:a[k]? = some d):d=a.getD k 0:=by rw[List.getD_eq_getElem?_getD,h];rfl
theorem Z5 {a:List Nat} {k:Nat} (h:a.length<=k):0=a.getD k 0:=by rw[List.getD_eq_getElem?_getD,List.getElem?_eq_none h];rfl
theorem rT {a:List Nat} (hD:B9 a) {n:Nat} (hn:3<=n) (hl:a.length<=n) : ∃ r,r<4294967296^(n-3)/\val a=r+4294967296^(n-3)*(a.getD (n-3) 0+4294967296*(a.getD (n-2) 0+4294967296*a.getD (n-1) 0)):=by
 refine ⟨val (a.take (n-3)),?_,?_⟩
 ·refine Nat.lt_of_lt_of_le (JM (hD.take _)) (Nat.pow_le_pow_right (by omega) ?_)
  rw[List.length_take];omega
 ·have h1:=dG a (n-3)
  have h2:=dF a (n-3);have h3:=dF a (n-3+1);have h4:=dF a (n-3+1+1);rw[List.drop_of_length_le (show a.length<=n-3+1+1+1 by omega),OH]at h4;rw[show n-3+1=n-2 by omega]at *;rw[show n-2+1=n-1 by omega]at *;rw[h4,Nat.mul_zero,Nat.add_zero]at h3;rw[h3]at h2;rw[h2]at h1;exact h1
theorem AgY {a:List Nat} (hD:B9 a) {n:Nat} (hn:2<=n) (hl:a.length<=n) : ∃ r,r<4294967296^(n-2)/\val a=r+4294967296^(n-2)*(a.getD (n-2) 0+4294967296*a.getD (n-1) 0):=by
 refine ⟨val (a.take (n-2)),?_,?_⟩
 ·refine Nat.lt_of_lt_of_le (JM (hD.take _)) (Nat.pow_le_pow_right (by omega) ?_)
  rw[List.length_take];omega
 ·have h1:=dG a (n-2)
  have h2:=dF a (n-2);have h3:=dF a (n-2+1);rw[List.drop_of_length_le (show a.length<=n-2+1+1 by omega),OH]at h3;rw[show n-2+1=n-1 by omega]at *;rw[h3,Nat.mul_zero,Nat.add_zero]at h2;rw[h2]at h1;exact h1
theorem ZU {a b:Nat} (h:a<=b):(dg a).length<=(dg b).length:=by
 rcases Nat.lt_or_ge (dg b).length (dg a).length with h1|h1
 ·have:=iF h1;omega
 ·exact h1
theorem uA {p:Nat} (h:p<18446744073709551616):val [p%4294967296,p/4294967296]=p/\B9 [p%4294967296,p/4294967296]:=by
 refine ⟨by simp [val];omega,λ x hx => ?_⟩;simp at hx;omega
theorem LY {a:List Nat} {k d:Nat} (h:a[k]? = some d):a.getD k 0=d:=(getD_some h).symm
theorem wX {y:List Nat} {s yt:Nat} (hD:B9 y) (Ak:y[y.length-1]? = some yt) (hl:1<=y.length) (hs:s<=31) (b3:2147483648<=yt*2^s) (b4:yt*2^s<4294967296):val y*2^s<4294967296^y.length/\4294967296^(y.length-1)*2147483648<=val y*2^s:=by
 have h1:=PO y (y.length-1) (by omega);have h2:=MN Ak;rw[List.drop_of_length_le (show y.length<=y.length-1+1 by omega),OH,Nat.mul_zero,Nat.add_zero]at h2;rw[h2]at h1;have h3:=JM (hD.take (y.length-1));rw[List.length_take,Nat.min_eq_left (by omega)]at h3;have e:4294967296^y.length=4294967296^(y.length-1)*4294967296:=by rw[<-Nat.pow_succ,Nat.succ_eq_add_one,show y.length-1+1=y.length by omega]
 rw[e];generalize 4294967296^(y.length-1)=p at *;have hk:(yt+1)*2^s<=4294967296:=by
  have e2:4294967296=2^s*2^(32-s):=by rw[<-Nat.pow_add,show s+(32-s)=32 by omega]
  rw[e2,Nat.mul_comm]at b4;have:=Nat.lt_of_mul_lt_mul_left b4
  rw[e2,Nat.mul_comm];exact Nat.mul_le_mul_left _ this
 have h4:val y+1<=p*(yt+1):=by rw[Nat.mul_add];omega
 have h5:=zR (2^s) h4;have h6:p*((yt+1)*2^s)<=p*4294967296:=Nat.mul_le_mul_left p hk;rw[<-Nat.mul_assoc]at h6;have h7:p*2147483648<=p*(yt*2^s):=Nat.mul_le_mul_left p b3;have h8:p*(yt*2^s)<=val y*2^s:=by rw[<-Nat.mul_assoc];exact zR _ (by omega)
 have h9:=Nat.two_pow_pos s;rw[Nat.add_mul]at h5;exact ⟨by omega,by omega⟩
theorem AgI {v:List Nat} {k c d:Nat} (hD:B9 v) (hl:v.length=k+1) (h:4294967296^k*c<=val v) (hd:v[k]? = some d):c<=d:=by
 have h1:=PO v k (by omega);have h2:=MN hd;rw[List.drop_of_length_le (show v.length<=k+1 by omega),OH,Nat.mul_zero,Nat.add_zero]at h2;rw[h2]at h1;have h3:=JM (hD.take k);rw[List.length_take,Nat.min_eq_left (by omega)]at h3;generalize 4294967296^k=p at *;have h4:p*c<p*(d+1):=by rw[Nat.mul_add];omega
 have:=Nat.lt_of_mul_lt_mul_left h4
 omega
theorem Acg (o:List Nat) (j n:Nat) (h:j+n<=o.length) : ∃ A W C,A.length=j/\W.length=n/\o=A++W++C:=by
 refine ⟨o.take j,(o.drop j).take n,(o.drop j).drop n,by simp;omega,by simp;omega,?_⟩;rw[List.append_assoc,List.take_append_drop,List.take_append_drop]
theorem AbR {A W C:List Nat} (h:B9 (A++W++C)):B9 A/\B9 W/\B9 C:=by
 refine ⟨λ x hx=>h x (by simp [hx]),λ x hx=>h x (by simp [hx]),λ x hx=>h x (by simp [hx])⟩
theorem Aci {A W C:List Nat} {j l V:Nat} (hA:A.length=j) (hW:W.length=l+1) (hD:B9 (A++W++C)) (h:val ((A++W++C).drop (j+1))<V) (hV:V<4294967296^l) :
  val C=0/\val W<4294967296*V/\val ((A++W++C).take (j+1))+4294967296^(j+1)*val ((A++W++C).drop (j+1))=val A+4294967296^j*val W:=by
 have h1:=dG (A++W++C) (j+1);have h2:val (A++W++C)=val A+4294967296^j*(val W+4294967296^(l+1)*val C):=by
  rw[List.append_assoc,iE,iE,hA,hW]
 have h3:=dF (A++W++C) j;have h4:(A++W++C).drop j=W++C:=by
  rw[List.append_assoc,List.drop_append_of_le_length (by omega),List.drop_of_length_le (by omega)];rfl
 have h5:=Z4 hD j;rw[h4,iE,hW]at h3;rw[Nat.pow_succ]at h3;have h6:val C=0:=by
  rcases Nat.eq_zero_or_pos (val C) with h0|h0
  ·exact h0
  ·have:4294967296^l*4294967296*1<=4294967296^l*4294967296*val C:=Nat.mul_le_mul_left _ h0
   omega
 rw[h6,Nat.mul_zero,Nat.add_zero]at h3;refine ⟨h6,by omega,?_⟩;rw[<-h1,h2,h6,Nat.mul_zero,Nat.add_zero]
theorem uO {A W C:List Nat} {j:Nat} (hA:A.length=j) (hC:val C=0):val ((A++W++C).drop j)=val W/\val ((A++W++C).take j)=val A:=by
 rw[List.append_assoc,List.drop_append_of_le_length (by omega),List.drop_of_length_le (by omega),List.take_append_of_le_length (by omega),zT (by omega),List.nil_append,iE,hC];simp
theorem Ach {U VA P Q q V W R:Nat} (h:U=VA+P*W+P*4294967296*(Q*V)) (h2:W=q*V+R):U=VA+P*((q+4294967296*Q)*V+R):=by
 rw[h,h2];grind
section
variable {a b:Nat} {K:AV->Prop}
theorem Yr (n:Nat) (hx:a%2^n=0) (hy:b<2^n) (h:a+b<=18446744073709551615) (hk:K (.int .u64 ((a+b:Nat):Int))):AU .or .u64 (a:Int) .u64 (b:Int) K :=
 sH n hx hy (show a+b<18446744073709551616 by omega) (IntWalk.u64_in _ (by omega)) hk
theorem mR (n:Nat) (hx:b%2^n=0) (hy:a<2^n) (h:a+b<=18446744073709551615) (hk:K (.int .u64 ((a+b:Nat):Int))):AU .or .u64 (a:Int) .u64 (b:Int) K:=by
 have e:GF .or .u64 (a:Int) .u64 (b:Int)=GF .or .u64 (b:Int) .u64 (a:Int):=by
  simp only[GF,if_true,BitVec.or_comm]
 rw[Nat.add_comm]at hk h;have hh:=Yr (K:=K) n hx hy h hk;unfold AU at hh ⊢;rw[e];exact hh
end
theorem mQ {a:Nat} {K:AV->Prop} (h:a<=18446744069414584319) (hk:K (.int .u64 ((a+4294967296:Nat):Int))):AU .add .u64 (a:Int) .u64 4294967296 K :=
 K0 (b:=4294967296) (by omega) hk
theorem O3 {l:List Nat} {i e:Nat} {K:List AV->Prop} (he:l[i]? = some e) (h:K (BF e)):C1 (l.map BF) (0+((i:Int)).toNat) 0 1 K :=
 sE (e:=e) (by rw[Nat.zero_add,Int.toNat_natCast];exact he) rfl h
theorem Aig {l:List Nat} {i:Int} {e:Nat} {K:List AV->Prop} (he:l[i.toNat]? = some e) (h:K (BF e)):C1 (l.map BF) (0+i.toNat) 0 1 K :=
 sE (e:=e) (by rw[Nat.zero_add];exact he) rfl h
theorem ZI {A w C:List Nat} {i e:Nat} {K:List AV->Prop} (n:Nat) (he:w[n]? = some e) (hi:i=A.length+n) (h:K (BF e)):C1 ((A++w++C).map BF) i 0 1 K:=by
 have hn:=(zS he).1;exact sE (e:=e) (by rw[Ahe hi hn];exact he) rfl h
end Go.b8
