/-
  The walk by computation is sound: calls, regions, code, loops, functions.
-/
import Derived.Test.YtfnglkabkfmjcaaGreatB6
import Derived.Calls
import Derived.Test.YtfnglkabkfmjcaaGreatB3
set_option linter.unusedSimpArgs false
set_option linter.unusedVariables false
set_option linter.unnecessarySimpa false
namespace Go.c9
section
variable {σ:FR} {tm:Tm} {M:Mem} {st:St} {L:Lib} {c7:List Nat}
theorem zW {own:AH} {q:Bool} {d:Nat} : ∀ {e:List AV},FU e=true->e.mapM (snap own q d)=some e
 | [],_=>rfl
 | v::r,h=>by
  have hv:snap own q d v=some v/\FU r=true:=by
   cases v<;>simp only[FU]at h<;>first|cases h|exact ⟨by cases d<;>rfl,h⟩
  rw[List.mapM_cons,hv.1,zW hv.2];rfl
theorem zY {own:AH} {q:Bool} {d:Nat} : ∀ {e:List AV},QF e=true->e.mapM (snap own q d)=some (e.map nl)
 | [],_=>rfl
 | v::r,h=>by
  have hv:snap own q d v=some (nl v)/\QF r=true:=by
   cases v<;>simp only[QF]at h<;>first|cases h|exact ⟨by cases d<;>rfl,h⟩
  rw[List.mapM_cons,hv.1,zY hv.2];rfl
theorem zX {own:AH} {q:Bool} {d:Nat} : ∀ {es:List (List AV)},(∀ e∈es,QF e=true)->es.mapM (λ cs:List AV=>cs.mapM (snap own q d))=some (es.map λ e=>e.map nl)
 | [],_=>rfl
 | e::r,h=>by
  rw[List.mapM_cons,zY (h e List.mem_cons_self),zX λ x hx=>h x (List.mem_cons_of_mem _ hx)];rfl
theorem zV {own:AH} {q:Bool} {d:Nat} : ∀ {es:List (List AV)},(∀ e∈es,FU e=true)->es.mapM (λ cs:List AV=>cs.mapM (snap own q d))=some es
 | [],_=>rfl
 | e::r,h=>by
  rw[List.mapM_cons,zW (h e List.mem_cons_self),zV λ x hx=>h x (List.mem_cons_of_mem _ hx)];rfl
theorem Pp (hs:NZ σ st.own M) {q:Bool} {v:AV} {K:AV->Prop} (h:XB q M c7 v K) : ∃ v',(∀ d,snap (st.own.m8 c7) q (d+1) (A9 σ v)=some v')/\K v'/\v ≠ .any/\BV σ v=A9 σ v:=by
 cases v with
 | row key t z off len =>
  have fin : ∀ (z':Nat) (es:List (List AV)),((st.own.m8 c7) (σ key t).1).g7 (σ key t).2=some ⟨z',es⟩->z=z'->A1 es off len (λ es=>K (.sl q es)) -> ∃ v',(∀ d,snap (st.own.m8 c7) q (d+1) (A9 σ (.row key t z off len))=some v')/\K v'/\AV.row key t z off len ≠ .any/\BV σ (.row key t z off len)=A9 σ (.row key t z off len):=by
   intro z' es hb hz h;subst hz;obtain ⟨h1,h2,h3⟩:=h;refine ⟨_,λ d => ?_,h3,(by intro e;cases e),rfl⟩;simp only[A9,snap,ES,AH.get,hb];rw[if_pos ⟨h1,trivial⟩];simp only;rw[zX λ e he=>h2 e (List.mem_of_mem_drop (List.mem_of_mem_take he))];rfl
  simp only[XB]at h;split at h
  ·rename_i s z' es hm
   split at h
   ·cases hz:Nat.beq z z'<;>simp only[hz,cond_true,cond_false]at h
    cases hb:VR s c7<;>simp only[hb,cond_true,cond_false]at h;refine fin z' es ?_ (BS.1 hz) h;have af:=hs.g7 _ _ _ (D4 hm);rw[hs.site _ _ _ hm]at af ⊢;rw[YW hb];exact af
   ·exact h.elim
  ·rename_i s rows hm
   split at h
   ·exact h.elim
   ·rename_i i
    split at h
    ·obtain ⟨z',es,g,h⟩:=h
     cases hz:Nat.beq z z'<;>simp only[hz,cond_true,cond_false]at h;exact fin z' es (hs.g7 key (i+1) (.rw z' es) (by simp [c4,hm,g])) (BS.1 hz) h
    ·rename_i b r
     cases hb:W2 (b::r)<;>simp only[hb,cond_true,cond_false]at h;obtain ⟨z',es,g,h⟩:=h;cases hz:Nat.beq z z'<;>simp only[hz,cond_true,cond_false]at h;have g':c4 M key (i+1)=some (.rw z' es):=by simp [c4,hm,g]
     refine fin z' es ?_ (BS.1 hz) h;rw[nI (hs.low _ _ _ g' rfl) hb];exact hs.g7 key (i+1) (.rw z' es) g'
  ·exact h.elim
 | int k n=>exact ⟨_,λ d=>rfl,h,(by intro e;cases e),rfl⟩
 | bool b=>exact ⟨_,λ d=>rfl,h,(by intro e;cases e),rfl⟩
 | sl l es=>exact ⟨_,λ d=>rfl,h,(by intro e;cases e),rfl⟩
 | dh c=>exact ⟨_,λ d=>rfl,h,(by intro e;cases e),rfl⟩
 | nil=>exact ⟨_,λ d=>rfl,h,(by intro e;cases e),rfl⟩
 | _=>exact (h:False).elim
theorem Po (hs:NZ σ st.own M) {q:Bool} : ∀ {l:List AV} {K:List AV->Prop},gU q M c7 l K -> ∃ l',(∀ d,(l.map (A9 σ)).mapM (snap (st.own.m8 c7) q (d+1))=some l')/\K l'
 | [],K,h=>⟨[],λ d=>rfl,h⟩
 | v::r,K,h=>by
  obtain ⟨v',h1,h2,_⟩:=Pp hs (show XB q M c7 v λ v'=>gU q M c7 r λ r'=>K (v'::r') from h);obtain ⟨l',h3,h4⟩:=Po hs h2;refine ⟨v'::l',λ d => ?_,h4⟩;rw[List.map_cons,List.mapM_cons,h1 d,h3 d];rfl
theorem Pn (hs:NZ σ st.own M) {q:Bool} : ∀ {l:List (List AV)} {K:List (List AV)->Prop},oV q M c7 l K -> ∃ l',(∀ d,(l.map λ cs=>cs.map (A9 σ)).mapM (λ cs:List AV=>cs.mapM (snap (st.own.m8 c7) q (d+1)))=some l')/\K l'
 | [],K,h=>⟨[],λ d=>rfl,h⟩
 | v::r,K,h=>by
  obtain ⟨v',h1,h2⟩:=Po hs (show gU q M c7 v λ v'=>oV q M c7 r λ r'=>K (v'::r') from h);obtain ⟨l',h3,h4⟩:=Pn hs h2;refine ⟨v'::l',λ d => ?_,h4⟩;rw[List.map_cons,List.mapM_cons,h1 d,h3 d];rfl
theorem oG {own:AH} {q:Bool} {d:Nat} {k:Nat} : ∀ {rows:List (Option (Nat × List (List AV)))} {i:Nat},(∀ j z es,rows[j]? = some (some (z,es))->(own (σ k (i+j+1)).1).g7 (σ k (i+j+1)).2=some ⟨z,es⟩ /\ ∀ e∈es,FU e=true) ->
  (B5 σ k i rows).mapM (λ cs:List AV=>cs.mapM (snap own q (d+1)))=some (VV q rows)
 | [],i,h=>rfl
 | none::r,i,h=>by
  rw[B5,List.mapM_cons,oG (i:=i+1) λ j z es hj=>by
   have:=h (j+1) z es (by simpa using hj)
   rwa [show i+(j+1)+1=i+1+j+1 by omega]at this]
  rfl
 | some (z,es)::r,i,h=>by
  rw[B5,List.mapM_cons,oG (i:=i+1) λ j z es hj=>by
   have:=h (j+1) z es (by simpa using hj)
   rwa [show i+(j+1)+1=i+1+j+1 by omega]at this]
  obtain ⟨h1,h2⟩:=h 0 z es rfl;have:snap own q (d+1) (.row (σ k (i+1)).1 (σ k (i+1)).2 z 0 es.length)=some (.sl q es):=by
   simp only[snap,ES,AH.get];rw[show (own (σ k (i+1)).1).g7 (σ k (i+1)).2=some ⟨z,es⟩ from h1];simp only[Nat.zero_add,Nat.le_refl,and_self,if_true,List.drop_zero];rw[List.take_of_length_le (Nat.le_refl _),zV h2];rfl
  rw[List.mapM_cons,this];rfl
theorem Pm (hs:NZ σ st.own M) {q:Bool} {v:AV} {K:AV->Prop} (h:bL q M c7 v K) : ∃ v',snap (st.own.m8 c7) q 6 (A9 σ v)=some v'/\K v'/\v ≠ .any/\BV σ v=A9 σ v/\C6 (st.own.m8 c7) q (A9 σ v)=some v':=by
 have ux:XB q M c7 v K -> ∃ v',snap (st.own.m8 c7) q 6 (A9 σ v)=some v'/\K v'/\v ≠ .any/\BV σ v=A9 σ v/\C6 (st.own.m8 c7) q (A9 σ v)=some v':=by
  intro h;obtain ⟨v',h1,h2,h3,h4⟩:=Pp hs h;refine ⟨v',h1 5,h2,h3,h4,?_⟩;have:=h1 5
  cases v<;>first|exact this|exact (h:False).elim
 unfold bL at h;split at h
 ·rename_i key z off len
  split at h
  ·rename_i s z' es hm
   cases hz:Nat.beq z z'<;>simp only[hz,cond_true,cond_false]at h;cases hb:VR s c7<;>simp only[hb,cond_true,cond_false]at h;cases ho:Nat.beq off 0<;>simp only[ho,cond_true,cond_false]at h;obtain rfl:=BS.1 hz;obtain rfl:=BS.1 ho;obtain ⟨rfl,h⟩:=h;obtain ⟨l',h1,h2⟩:=Pn hs h;have af:=hs.g7 _ _ _ (D4 hm);rw[hs.site _ _ _ hm]at af;have key:snap (st.own.m8 c7) q 6 (A9 σ (.row key 0 z 0 es.length))=some (.sl q l'):=by
    simp only[A9,snap,ES,AH.get,hs.site _ _ _ hm];rw[YW hb,af];simp only[A8.g7,Nat.zero_add,List.length_map,Nat.le_refl,and_self,if_true,List.drop_zero];rw[List.take_of_length_le (by simp),h1 4];rfl
   exact ⟨_,key,h2,(by intro e;cases e),rfl,key⟩
  ·rename_i s rows hm
   split at h
   ·cases hz:Nat.beq z 1<;>simp only[hz,cond_true,cond_false]at h
    obtain rfl:=BS.1 hz;obtain ⟨rfl,rfl,h1,h2⟩:=h;have af:=hs.g7 _ _ _ (D4 hm);have key:snap (st.own.m8 []) q 6 (A9 σ (.row key 0 1 0 rows.length))=some (.sl q (VV q rows)):=by
     simp only[A9,snap,ES,AH.get,AH.m8];rw[af];simp only[A8.g7,Nat.zero_add,FA,Nat.le_refl,and_self,if_true,List.drop_zero];rw[List.take_of_length_le (by rw[FA];exact Nat.le_refl _),oG (i:=0) λ j z es hj=>⟨by
      have:=hs.g7 key (j+1) (.rw z es) (by simp [c4,hm,hj])
      simpa [A8.g7] using this,h1 z es (zM hj)⟩]
     rfl
    exact ⟨_,key,h2,(by intro e;cases e),rfl,key⟩
   ·exact h.elim
  ·exact ux h
 ·exact ux h
theorem Pq (hs:NZ σ st.own M) {q:Bool} : ∀ {l:List AV} {K:List AV->Prop},oW q M c7 l K -> ∃ l',(l.map (A9 σ)).mapM (snap (st.own.m8 c7) q 6)=some l'/\K l'
 | [],K,h=>⟨[],rfl,h⟩
 | v::r,K,h=>by
  obtain ⟨v',h1,h2,_⟩:=Pm hs (show bL q M c7 v λ v'=>oW q M c7 r λ r'=>K (v'::r') from h);obtain ⟨l',h3,h4⟩:=Pq hs h2;refine ⟨v'::l',?_,h4⟩;rw[List.map_cons,List.mapM_cons,h1,h3];rfl
theorem gT (hs:NZ σ st.own M) {q:Bool} {v:AV} {K:AV->Prop} (h:UV q M c7 v K) : ∃ v',C6 (st.own.m8 c7) q (BI σ v)=some v'/\K v'/\v ≠ .any/\BI σ v=BV σ v:=by
 cases v with
 | agg cs =>
  simp only[UV]at h;obtain ⟨l',h1,h2⟩:=Pq hs h;refine ⟨.agg l',?_,h2,(by intro e;cases e),rfl⟩;simp only[HY,C6,h1,Option.map_some]
 | j5 vs=>exact (h:False).elim
 | fn p f g cs=>exact (h:False).elim
 | any=>exact (h:False).elim
 | _ =>
  simp only[UV]at h;obtain ⟨v',h1,h2,h3,h4,h5⟩:=Pm hs h;exact ⟨v',h5,h2,h3,rfl⟩
theorem gW (hr:RX σ tm M st) : ∀ {xs:List AQ} {K:List AV->Prop},bM tm M c7 xs K -> ∃ vs,(xs.map st.ev).mapM (C6 (st.own.m8 c7) true)=some vs/\K vs
 | [],K,h=>⟨[],rfl,h⟩
 | x::r,K,h=>by
  obtain ⟨v',h1,h2,h3,_⟩:=gT hr.sat (show UV true M c7 (ex tm x) λ v=>bM tm M c7 r λ vs=>K (v::vs) from h);obtain ⟨l',h4,h5⟩:=gW hr h2;refine ⟨v'::l',?_,h5⟩;rw[List.map_cons,List.mapM_cons,hr.ev rfl h3,h1,h4];rfl
theorem AkI (hs:NZ σ st.own M) {v:AV} {K:AV->Prop} (h:gV M c7 v K) : ∃ v',TL (st.own.m8 c7) true (BI σ v)=some v'/\K v'/\v ≠ .any/\BI σ v=BV σ v:=by
 cases v with
 | nil=>exact ⟨.nil,rfl,h,(by intro e;cases e),rfl⟩
 | _ =>
  simp only[gV]at h;obtain ⟨v',h1,h2,h3,h4⟩:=gT hs h;exact ⟨v',h1,h2,h3,h4⟩
theorem Pr (hr:RX σ tm M st) : ∀ {xs:List AQ} {K:List AV->Prop},oX tm M c7 xs K -> ∃ vs,(xs.map st.ev).mapM (TL (st.own.m8 c7) true)=some vs/\K vs
 | [],K,h=>⟨[],rfl,h⟩
 | x::r,K,h=>by
  obtain ⟨v',h1,h2,h3,_⟩:=AkI hr.sat (show gV M c7 (ex tm x) λ v=>oX tm M c7 r λ vs=>K (v::vs) from h);obtain ⟨l',h4,h5⟩:=Pr hr h2;refine ⟨v'::l',?_,h5⟩;rw[List.map_cons,List.mapM_cons,hr.ev rfl h3,h1,h4];rfl
theorem Z9 (hr:RX σ tm M st) : ∀ {xs:List AQ} {K:List AV->Prop},YI tm xs K -> ∃ vs,xs.map st.ev=vs.map (BI σ)/\K vs
 | [],K,h=>⟨[],rfl,h⟩
 | x::r,K,h=>by
  obtain ⟨h1,h2⟩:=eG (show fV (ex tm x) λ v=>YI tm r λ vs=>K (v::vs) from h);obtain ⟨vs,h3,h4⟩:=Z9 hr h2;exact ⟨ex tm x::vs,by rw[List.map_cons,List.map_cons,hr.ev rfl h1,h3],h4⟩
theorem sT {v:AV} (h:A3 v):A9 σ v=v:=by
 cases v<;>first|rfl|(simp only[A3]at h)
theorem sR : ∀ {l:List AV},CG l->l.map (A9 σ)=l
 | [],_=>rfl
 | v::r,h=>by
  simp only[CG]at h;rw[List.map_cons,sT h.1,sR h.2]
theorem sU {v:AV} (h:A3 v):BV σ v=v:=by
 cases v with
 | agg cs=>simp only[A3]at h;simp only[BV,sR h]
 | fn p f g cs=>simp only[A3]at h
 | _=>exact sT (σ:=σ) h
theorem sS : ∀ {l:List AV},CG l->l.map (BV σ)=l
 | [],_=>rfl
 | v::r,h=>by
  simp only[CG]at h;rw[List.map_cons,sU h.1,sS h.2]
theorem jP {v:AV} (h:A3 v):BI σ v=v:=by
 cases v with
 | j5 cs=>simp only[A3]at h;simp only[BI,sS h]
 | _=>exact sU (σ:=σ) h
theorem Rp {I:List AV->Option (AV × AH)} {vs:List AV} {r:AV} (h:I1 I vs=some r):A3 r:=by
 unfold I1 at h;split at h
 ·split at h
  ·split at h
   ·obtain rfl:=Option.some.inj h
    assumption
   ·cases h
  ·cases h
 ·cases h
theorem Ev.clean {f:Nat} {vs:List AV} {r:AV} (h:Ev L f vs r):A3 r:=by
 obtain ⟨n,h⟩:=h;unfold G4 OP at h;split at h
 ·split at h
  ·rename_i r1 r2 h1 h2
   split at h
   ·obtain rfl:=Option.some.inj h
    exact Rp h1
   ·cases h
  ·cases h
 ·exact Rp h
theorem RX.put (h:RX σ tm M st) (d:Nat) {v v':AV} (e:v'=BI σ v):RX σ ((d,v)::tm) M ⟨jx st.tm d v',st.own⟩:=by
 refine ⟨λ j => ?_,h.sat⟩;simp only[tg,bV];cases hb:Nat.beq j d
 ·rw[if_neg (FM.1 hb)];exact h.tm j
 ·rw[if_pos (BS.1 hb)];exact Or.inr e
theorem zZ : ∀ {cs:List AV},aU cs=true->cs.map (BI σ)=cs.map (A9 σ)
 | [],_=>rfl
 | v::r,h=>by
  simp only[aU]at h;cases hv:nK v<;>simp only[hv,cond_true,cond_false]at h
  ·cases h
  ·rw[List.map_cons,List.map_cons,zZ h]
   cases v<;>first|rfl|(simp [nK]at hv)
theorem AfN {v:AV} (h:GT v=true):A9 σ v=v:=by cases v<;>first|rfl|(simp [GT]at h)
theorem uQ : ∀ {cs:List AV},cs.all GT=true->cs.map (A9 σ)=cs
 | [],_=>rfl
 | c::r,h=>by
  simp only[List.all_cons,Bool.and_eq_true]at h;rw[List.map_cons,AfN h.1,uQ h.2]
theorem uR : ∀ {vs:List AV},vs.all dq=true->vs.map (BI σ)=vs
 | [],_=>rfl
 | v::r,h=>by
  simp only[List.all_cons,Bool.and_eq_true]at h;rw[List.map_cons,uR h.2];congr 1;cases v with
  | agg cs=>simp only[BI,BV,uQ (show cs.all GT=true from h.1)]
  | _=>first|rfl|(simp [dq,GT]at h)
theorem Ai1 {r:AV} (hc:A3 r) (hf:NX r):BI σ (zn r)=zn r:=by
 cases r with
 | agg cs =>
  simp only[zn,BI,BV];congr 1;rw[List.map_map];refine List.map_congr_left λ c nj => ?_
  have:=hf c nj
  cases c<;>first|rfl|exact this.elim
 | _=>first|rfl|exact hf.elim
theorem AiY {c:AV} (h:A3 c):A9 σ (HT c)=HT c:=by
 cases c<;>first|(simp only[HT,A9];done)|(simp only[A3]at h;done)
theorem AiZ {r:AV} (h:A3 r) (hd:XT r):BI σ (TE r)=TE r:=by
 cases r with
 | agg cs =>
  simp only[A3]at h;have : ∀ cs:List AV,CG cs->(PL cs).map (A9 σ)=PL cs:=by
   intro cs;induction cs with
   | nil=>intro _;simp [PL]
   | cons c l ih =>
    intro h;simp only[CG]at h;rw[PL,List.map_cons,ih h.2,AiY h.1]
  simp only[TE,BI,BV,this cs h]
 | j5=>exact hd.elim
 | fn=>exact hd.elim
 | _=>first|(simp only[TE,HT,BI,BV,A9];done)|(simp only[A3]at h;done)
theorem Ai0 {r:AV} (h:A3 r) (hd:NX r\/XT r):BI σ (PM r)=PM r:=by
 by_cases hf:NX r
 ·rw[mM hf];exact Ai1 h hf
 ·rw[yQ hf];exact AiZ h (hd.resolve_left hf)
theorem xU : ∀ {l:List AV},eL l=true->l.map (BI σ)=l
 | [],_=>rfl
 | .int _ _::r,h=>by
  rw[List.map_cons,xU (l:=r) h];rfl
theorem Adf {K:AV->Mem->Prop} (hr:RX σ tm M st) {op:D6} (h:XE L tm M c7 K op):BX L tm c7 K op st\/(∃ f xs,op = .call f xs)\/(∃ f xs,op = .g9 f xs)\/(∃ x xs,op = .n0 x xs)\/(∃ f xs,op = .m7 f xs)\/(∃ s f xs,op = .u6 s f xs) \/ ∃ s f xs,op = .cu s f xs:=by
 cases op with
 | call f xs=>exact Or.inr (Or.inl ⟨_,_,rfl⟩)
 | g9 f xs=>exact Or.inr (Or.inr (Or.inl ⟨_,_,rfl⟩))
 | n0 x xs=>exact Or.inr (Or.inr (Or.inr (Or.inl ⟨_,_,rfl⟩)))
 | m7 f xs=>exact Or.inr (Or.inr (Or.inr (Or.inr (Or.inl ⟨_,_,rfl⟩))))
 | u6 s f xs=>exact Or.inr (Or.inr (Or.inr (Or.inr (Or.inr (Or.inl ⟨_,_,_,rfl⟩)))))
 | cu s f xs=>exact Or.inr (Or.inr (Or.inr (Or.inr (Or.inr (Or.inr ⟨_,_,_,rfl⟩)))))
 | oh s n x v=>exact Or.inl (Adt hr h)
 | tu ne x=>exact Or.inl (Adh hr h)
 | bad=>exact (show False from h).elim
 | fm x=>exact Or.inl (Ada hr h)
 | oi s z b x y=>exact Or.inl (Yl hr h)
 | gv tb x=>exact Or.inl (Adr hr h)
 | qo p f xs=>exact Or.inl (Adn hr h)
 | sd f x=>exact Or.inl (Adm hr h)
 | b7 x=>exact Or.inl (Adp hr h)
 | w4 s z=>exact Or.inl (Adv hr h)
 | pick c a b=>exact Or.inl (Adq hr h)
 | bin o x y=>exact Or.inl (Yn hr h)
 | beq ne x y=>exact Or.inl (Ym hr h)
 | sf ne n x y=>exact Or.inl (Zu hr h)
 | un o x=>exact Or.inl (Adu hr h)
 | conv k x=>exact Or.inl (Adb hr h)
 | box s x=>exact Or.inl (Yo hr h)
 | alloc s z=>exact Or.inl (Yh hr h)
 | build z ps=>exact Or.inl (Yq hr h)
 | e9 s z ps=>exact Or.inl (Yp hr h)
 | a7 x o=>exact Or.inl (Add hr h)
 | om x o n a=>exact Or.inl (Ade hr h)
 | a5 a z x i=>exact Or.inl (Adg hr h)
 | ld a n x=>exact Or.inl (Adi hr h)
 | uq a n x=>exact Or.inl (Adj hr h)
 | st n x v=>exact Or.inl (rJ hr h)
 | mk s z b ze l c=>exact Or.inl (Adl hr h)
 | fx z x lo hi=>exact Or.inl (Ads hr h)
 | ext x i=>exact Or.inl (Adc hr h)
 | len x=>exact Or.inl (Adk hr h)
 | mm m xs=>exact Or.inl (Ado hr h)
 | app s z b x y=>exact Or.inl (Yi hr h)
theorem iT {K:AV->Mem->Prop} (hr:RX σ tm M st) {op:D6} {d:Option Nat} {g:Option (Nat × Bool)} {l:List AI} {k:List It} {Q:St->Prop} (h:XE L tm M c7 K op) (hg:FN st g=some true)
  (hk : ∀ σ' v v' M' m6,K v M'->v'=BI σ' v->RX σ' tm M' ⟨st.tm,m6⟩->AO L l k ⟨((⟨st.tm,m6⟩:St).dst d v').tm,m6⟩ Q):AO L (⟨d,op,g,c7⟩::l) k st Q:=by
 rcases Adf hr h with ⟨E,σ',v,M',h1,h2,h3,h4⟩|⟨f,xs,rfl⟩|⟨f,xs,rfl⟩|⟨x,xs,rfl⟩|⟨f,xs,rfl⟩|⟨s,f,xs,rfl⟩|⟨s,f,xs,rfl⟩
 ·rw[Acu hg h1,jA]
  have:=hk σ' v _ M' _ h2 h3 h4
  cases d<;>exact this
 ·simp only[XE]at h
  obtain ⟨vs,h1,r,h2,h3⟩:=gW hr h;rw[Acj hg h1 h2];have:=hk σ r r M st.own h3 (jP h2.clean).symm hr
  cases d<;>exact this
 ·simp only[XE]at h
  obtain ⟨vs,h1,h2⟩:=Z9 hr h;obtain ⟨r,m6,σ',M',h3,h4,h5,h6⟩:=h2 σ st.own hr.sat;rw[<-h1]at h3;rw[Acl hg h3];have:=hk σ' r _ M' m6 h6 rfl ⟨λ j=>by rw[h5 j];exact hr.tm j,h4⟩
  cases d<;>exact this
 ·simp only[XE]at h
  split at h
  ·rename_i f g' e1
   obtain ⟨h0,h⟩:=h;obtain ⟨vs,h1,r,h2,h3⟩:=gW hr h;have e2:=hr.ev e1 (by intro e;cases e);rw[bI,List.map_nil,h0]at e2;rw[Acm hg e2 h1 h2];have:=hk σ r r M st.own h3 (jP h2.clean).symm hr
   cases d<;>exact this
  ·rename_i f g' c cs e1
   obtain ⟨h0,h⟩:=h;obtain ⟨v',h1,h,_,_⟩:=gT hr.sat h;obtain ⟨vs,h2,r,h3,h4⟩:=gW hr h;have e2:=hr.ev e1 (by intro e;cases e);rw[bI,h0]at e2;have h5:(AV.agg (c::cs |>.map (A9 σ))::xs.map st.ev).mapM (C6 st.own true)=some (v'::vs):=by
    rw[List.mapM_cons,show C6 st.own true (AV.agg (c::cs |>.map (A9 σ)))=some v' from h1,show (xs.map st.ev).mapM (C6 st.own true)=some vs from h2];rfl
   rw[Ack hg e2 h5 h3];have:=hk σ r r M st.own h4 (jP h3.clean).symm hr
   cases d<;>exact this
  ·rename_i f g' cs e1
   cases ho:aU cs<;>simp only[ho,cond_true,cond_false]at h;obtain ⟨h0,h⟩:=h;obtain ⟨vs,h1,h2⟩:=Z9 hr h;rw[G5]at h2;obtain ⟨r,m6,σ',M',h3,h4,h5,h6⟩:=h2 σ st.own hr.sat;rw[List.map_append,<-h1,zZ (σ:=σ) ho]at h3;have e2:=hr.ev e1 (by intro e;cases e);rw[bI,h0]at e2;rw[Acp hg e2 h3];have:=hk σ' r _ M' m6 h6 rfl ⟨λ j=>by rw[h5 j];exact hr.tm j,h4⟩
   cases d<;>exact this
  ·exact h.elim
 ·simp only[XE]at h
  obtain ⟨vs,h1,h2⟩:=Z9 hr h;cases ho:vs.all dq<;>simp only[ho,cond_true,cond_false]at h2;obtain ⟨r,h3,h4,h5⟩:=h2;have e1:xs.map st.ev=vs:=by rw[h1];exact uR ho
  rw[Acn hg (by rw[e1];exact ho) (by rw[e1];exact h3) h4];have:=hk σ (PM r) (PM r) M st.own h5 (Ai0 h3.clean h4).symm hr
  cases d<;>exact this
 ·simp only[XE]at h
  cases Gn:EY s<;>simp only[Gn,cond_true,cond_false]at h;obtain ⟨vs,h1,z,es,n,h2,rfl,h3⟩:=Pr hr h;obtain ⟨k',g1,g2,g3⟩:=HK h3;refine Aco hg h1 h2 ?_;rw[jA];have:=hk (C5 σ k' λ_=>(s,st.own.j7 s)) _ (.row s (st.own.j7 s) z 0 es.length) _ _ g3 (by simp only[DH,B1]) (hr.fw (q:=s) g1 g2 (.rw z es) trivial rfl (λ_=>Gn))
  cases d<;>exact this
 ·simp only[XE]at h
  obtain ⟨vs,h1,h2⟩:=Z9 hr h;split at h2
  ·rename_i key rest
   cases hi:eL rest<;>simp only[hi,cond_true,cond_false]at h2;obtain ⟨cells,gf,kd,n,g1,g2,g3,g4,g5⟩:=h2;have fu:=hr.sat.site _ _ _ g1;have af:=hr.sat.g7 _ _ _ (D4 g1);rw[fu]at af;simp only[A8.g7,IU g2]at af;have bg:xs.map st.ev = .ptr s (σ key 0).2 0 0::rest:=by
    rw[h1,List.map_cons,EN,fu,xU hi]
   have hE:=g4 (σ key 0).2 (st.own s) af;refine Acq hg (by rw[bg];exact hE) ?_;rw[jA];have:=hk σ (.int kd n) (.int kd n) _ _ g5 rfl (hr.Pf g1 trivial (.bx gf) trivial (λ h=>by cases h))
   simp only[A8.g7,IU g3]at this;cases d<;>exact this
  ·exact h2.elim
theorem AhO (hr:RX σ tm M st) {g:Nat} {w:Bool} {b:Bool} (e:tg tm g = .bool b):FN st (some (g,w))=some (b == w):=by
 rcases hr.tm g with h|h
 ·rw[e]at h;cases h
 ·rw[e]at h
  simp only[FN,h,G8]
theorem AhP (hr:RX σ tm M st) {g:Nat} {w:Bool} (e:tg tm g = .j5 []):FN st (some (g,w))=some false:=by
 rcases hr.tm g with h|h
 ·rw[e]at h;cases h
 ·rw[e]at h
  simp only[FN,h,JJ,List.map_nil]
theorem pW {key:Nat} : ∀ (tm:Tm) (j:Nat),tg (Eo key tm) j = .any\/tg (Eo key tm) j=tg tm j
 | [],_=>Or.inl rfl
 | (i,v)::r,j=>by
  simp only[Eo];cases hc:U7 key v<;>cases hb:Nat.beq j i;all_goals simp only[cond_true,cond_false,tg,hb]
  ·exact pW r j
  ·exact Or.inr trivial
  ·exact pW r j
  ·exact Or.inl trivial
theorem Aly {v:AV} {K:Tm->Prop} (h:xk v tm K) : ∃ bf,(∀ j,tg bf j = .any\/tg bf j=tg tm j)/\K bf:=by
 unfold xk at h;split at h
 ·rw[YK]at h
  exact ⟨_,λ j=>pW _ j,h⟩
 ·exact ⟨_,λ j=>Or.inr rfl,h⟩
theorem rK {k:List It} {Q:Tm->Mem->Prop} : ∀ {l:List AI} {K:Tm->Mem->Prop} {tm:Tm} {M:Mem},XO L l K tm M->(∀ bf M',K bf M'->AA L k bf M' Q)->qM L l k tm M Q
 | [],K,tm,M,h,hk=>λ σ st hr=>Acr.2 (hk tm M h σ st hr)
 | o::l,K,tm,M,h,hk=>by
  intro σ st hr;have h:XI L o (XO L l) K tm M:=h;have ih : ∀ bf M',XO L l K bf M'->qM L l k bf M' Q:=λ bf M' h'=>rK h' hk
  have some_ : ∀ (d:Nat) (op:D6) (g:Option (Nat × Bool)) (c7:List Nat),FN st g=some true->XE L tm M c7 (λ v M=>XO L l K ((d,v)::tm) M) op->AO L (⟨some d,op,g,c7⟩::l) k st (SQ Q):=by
   intro d op g c7 hg hx;refine iT hr hx hg ?_;intro σ' v v' M' m6 h1 h2 h3;exact ih _ _ h1 σ' _ (h3.put d h2)
  have Dl : ∀ (d:Nat) (u:AV) (op:D6) (c7:List Nat),XE L tm M c7 (λ v M=>xk u tm λ tm=>XO L l K ((d,v)::tm) M) op->AO L (⟨some d,op,none,c7⟩::l) k st (SQ Q):=by
   intro d u op c7 hx;refine iT hr hx rfl ?_;intro σ' v v' M' m6 h1 h2 h3;obtain ⟨bf,g1,g2⟩:=Aly h1;exact ih _ _ g2 σ' _ ((show RX σ' bf M' ⟨st.tm,m6⟩ from ⟨λ j=>(g1 j).elim Or.inl λ e=>by rw[e];exact h3.tm j,h3.sat⟩).put d h2)
  have none_ : ∀ (op:D6) (g:Option (Nat × Bool)) (c7:List Nat),FN st g=some true->XE L tm M c7 (λ_ M=>XO L l K tm M) op->AO L (⟨none,op,g,c7⟩::l) k st (SQ Q):=by
   intro op g c7 hg hx;refine iT hr hx hg ?_;intro σ' v v' M' m6 h1 h2 h3;exact ih _ _ h1 σ' _ h3
  have Bi : ∀ (d:Option Nat) (op:D6) (g:Option (Nat × Bool)) (c7:List Nat),FN st g=some false->(match d with|some d=>XO L l K ((d,.j5 [])::tm) M|none=>XO L l K tm M)->AO L (⟨d,op,g,c7⟩::l) k st (SQ Q):=by
   intro d op g c7 hg hx;rw[Acs hg];cases d with
   | none=>exact ih _ _ hx σ _ hr
   | some d=>exact ih _ _ hx σ _ (hr.put d rfl)
  obtain ⟨d,op,g,c7⟩:=o;cases g with
  | none =>
   cases d with
   | none=>exact none_ op none c7 rfl h
   | some d =>
    cases op with
    | app s z b x y=>exact Dl d (ex tm x) (.app s z b x y) c7 h
    | _=>exact some_ d _ none c7 rfl h
  | some gw =>
   obtain ⟨g,w⟩:=gw;have h:(match tg tm g with
    | .bool b=>fB (b == w) λ c=>match c,d with
     | true,some d=>XE L tm M c7 (λ v M=>XO L l K ((d,v)::tm) M) op
     | true,none=>XE L tm M c7 (λ_ M=>XO L l K tm M) op
     | false,some d=>XO L l K ((d,.j5 [])::tm) M
     | false,none=>XO L l K tm M
    | .j5 []=>match d with
     | some d=>XO L l K ((d,.j5 [])::tm) M
     | none=>XO L l K tm M
    | _=>False):=by cases d<;>cases op<;>exact h
   split at h
   ·rename_i b e
    rw[UB]at h;have hg:=AhO hr (w:=w) e;cases hb:(b == w)<;>rw[hb]at h hg
    ·exact Bi d op _ c7 hg (by cases d<;>exact h)
    ·cases d with
     | none=>exact none_ op _ c7 hg h
     | some d=>exact some_ d op _ c7 hg h
   ·rename_i e
    exact Bi d op _ c7 (AhP hr e) (by cases d<;>exact h)
   ·exact h.elim
theorem iU {Q:Tm->Mem->Prop} : ∀ {n:Nat} {k:List It} {tm:Tm} {M:Mem},XK L Q n k tm M->AA L k tm M Q
 | 0,k,tm,M,h=>h
 | n+1,[],tm,M,h=>λ σ st hr=>Acd.2 ⟨σ,tm,M,hr,h⟩
 | n+1,it::k,tm,M,h=>by
  have h:XS L Q (XK L Q n) (it::k) tm M:=h;have ih : ∀ k tm M,XK L Q n k tm M->AA L k tm M Q:=λ k tm M h=>iU h
  intro σ st hr;cases it with
  | g7 id=>exact Yb.2 (ih _ _ _ h σ st hr)
  | kv ts ss =>
   simp only[XS,Ahr,YK]at h;cases ss with
   | cons s r=>exact h.elim
   | nil =>
    refine Yf.2 (ih _ _ _ h σ _ ⟨λ j => ?_,hr.sat⟩);rw[bS,Y8,rX,jE,Bool.false_or];cases hc:ts.contains j
    ·simp only[Bool.false_eq_true,if_false,cond_false]
     exact hr.tm j
    ·exact Or.inl rfl
  | lp c=>exact h σ st hr
  | code c =>
   cases c with
   | skip=>exact Aci.2 (ih _ _ _ h σ st hr)
   | ops l d=>exact Ace.2 (rK h (λ bf M' h'=>ih _ _ _ h') σ st hr)
   | dr c ts ss=>exact Ye.2 (ih _ _ _ h σ st hr)
   | scope c=>exact Acg.2 (ih _ _ _ h σ st hr)
   | seq a b=>exact Ach.2 (ih _ _ _ h σ st hr)
   | cond x a b =>
    simp only[XS]at h;split at h
    ·rename_i b' e
     rw[UB]at h;rw[Yd (hr.ev e (by intro e;cases e))];cases b'
     ·simpa using ih _ _ _ h σ st hr
     ·simpa using ih _ _ _ h σ st hr
    ·exact h.elim
   | block id c=>exact Yc.2 (ih _ _ _ h σ st hr)
   | loop c=>exact Zw.2 (qL.1 (h σ st hr))
   | exit id =>
    simp only[XS]at h;split at h
    ·rename_i k' e
     exact (Zv e).2 (ih _ _ _ h σ st hr)
    ·exact h.elim
   | ret=>exact Acf.2 ⟨σ,tm,M,hr,h⟩
theorem Aka (hr:RX σ tm M st) {r:J0} {K:AV->Prop} (h:bF tm M r K) : ∃ v,FB st r=some (BI σ v)/\K v/\BI σ v=BV σ v:=by
 cases r with
 | tmp t =>
  simp only[bF]at h;obtain ⟨h1,h2,h3⟩:=wM (σ:=σ) h;refine ⟨_,?_,h3,h2⟩;rcases hr.tm t with e|e
  ·exact absurd e h1
  ·simp only[FB,e]
   cases hv:tg tm t<;>rw[hv]at h h1<;>first|rfl|exact (h:False).elim
 | cell t agg n =>
  simp only[bF]at h;split at h
  ·rename_i key i j e
   split at h
   ·rename_i s cs hm
    cases hi:Nat.beq i 0<;>simp only[hi,cond_true,cond_false]at h;obtain rfl:=BS.1 hi;split at h
    ·rename_i ds hp
     rw[G5]at h;rcases hr.tm t with e'|e'
     ·rw[e]at e';cases e'
     ·have hs:=hr.sat.site _ _ _ hm
      have af:=hr.sat.g7 _ _ _ (D4 hm);rw[hs]at af;have flat : ∀ v,KD agg (ds.map (A9 σ))=some (BI σ v)->FB st (.cell t agg n)=some (BI σ v):=by
       intro v hv;simp only[FB,e',e,EN,AH.qm,AH.get,hs,af,A8.g7,List.getElem?_cons_zero,fQ hp,hv]
      cases agg
      ·simp only[qp]at h
       split at h
       ·rename_i c
        obtain ⟨_,h1,h2⟩:=wN (σ:=σ) h;refine ⟨c,flat c (by rw[h1];rfl),h2,?_⟩;rw[h1];cases c<;>first|rfl|exact (h:False).elim
       ·exact h.elim
      ·exact ⟨.agg ds,flat _ rfl,h,rfl⟩
    ·exact h.elim
   ·exact h.elim
  ·exact h.elim
theorem oD (hr:RX σ tm M st) : ∀ {l:List J0} {K:List AV->Prop},gB tm M l K -> ∃ vs,l.mapM (FB st)=some (vs.map (BI σ))/\K vs/\vs.map (BI σ)=vs.map (BV σ)
 | [],K,h=>⟨[],rfl,h,rfl⟩
 | r::l,K,h=>by
  obtain ⟨v,h1,h2,h3⟩:=Aka hr (show bF tm M r λ v=>gB tm M l λ vs=>K (v::vs) from h);obtain ⟨vs,h4,h5,h6⟩:=oD hr h2;exact ⟨v::vs,by rw[List.mapM_cons,h1,h4];rfl,h5,by rw[List.map_cons,List.map_cons,h3,h6]⟩
theorem Pl (hs:NZ σ st.own M) {q:Bool} : ∀ {l:List AV} {K:List AV->Prop},oU q M l K -> ∃ l',(l.map (BI σ)).mapM (C6 st.own q)=some l'/\K l' /\ ∀ v∈l,BI σ v=BV σ v
 | [],K,h=>⟨[],rfl,h,λ v hv=>by cases hv⟩
 | v::r,K,h=>by
  obtain ⟨v',h1,h2,_,h0⟩:=gT hs (show UV q M [] v λ v'=>oU q M r λ r'=>K (v'::r') from h);obtain ⟨l',h3,h4,h5⟩:=Pl hs h2;refine ⟨v'::l',?_,h4,λ u hu => ?_⟩
  ·rw[List.map_cons,List.mapM_cons,show C6 st.own q (BI σ v)=some v' from h1,h3];rfl
  ·rcases List.mem_cons.1 hu with rfl|hu
   ·exact h0
   ·exact h5 u hu
theorem AkL {own:AH} {q:Bool} {v v':AV} (h:C6 own q v=some v'):VW own q v=some v':=by
 cases v with
 | j5 vs=>simp [C6,snap]at h
 | _=>exact h
theorem Ai5 {f:AV->Option AV} {x y:AV} {r l':List AV} (h:(x::y::r).mapM f=some l') : ∃ a b c,l'=a::b::c:=by
 rw[List.mapM_cons,List.mapM_cons]at h;cases hx:f x with
 | none=>rw[hx]at h;cases h
 | some a =>
  cases hy:f y with
  | none=>rw[hx,hy]at h;cases h
  | some b =>
   cases hr:r.mapM f with
   | none=>rw[hx,hy,hr]at h;cases h
   | some c =>
    rw[hx,hy,hr]at h;exact ⟨a,b,c,(Option.some.inj h).symm⟩
theorem rH {fn:AFn} {r:AV} (hr:RX σ tm M st) (h:U5 fn r tm M):ZJ fn r st:=by
 unfold U5 at h;obtain ⟨vs,h1,h2,h3⟩:=oD hr h;obtain ⟨l',h4,h5,h6⟩:=Pl hr.sat h2;unfold ZJ;rw[h1,Option.map_some,Option.bind_some];match vs,l',h4,h5 with
 | [],l',h4,h5 =>
  obtain rfl:=Option.some.inj h4;obtain ⟨e,hc⟩:=h5;exact ⟨by rw[<-e];rfl,hc⟩
 | [v],l',h4,h5 =>
  rw[List.map_cons,List.map_nil,List.mapM_cons]at h4;cases hv:C6 st.own false (BI σ v) with
  | none=>rw[hv]at h4;cases h4
  | some v' =>
   rw[hv]at h4;obtain rfl:=Option.some.inj h4;obtain ⟨e,hc⟩:=h5;exact ⟨by rw[<-e];exact AkL hv,hc⟩
 | v::u::w,l',h4,h5 =>
  obtain ⟨a,b,c,rfl⟩:=Ai5 (show List.mapM (C6 st.own false) (BI σ v::BI σ u::w.map (BI σ))=some l' from h4);obtain ⟨e,hc⟩:=h5;refine ⟨?_,hc⟩;rw[<-e];have h4:List.mapM (C6 st.own false) (BI σ v::BI σ u::w.map (BI σ))=some (a::b::c):=h4;show Option.map AV.j5 (List.mapM (C6 st.own false) (BI σ v::BI σ u::w.map (BI σ)))=_;rw[h4];rfl
def U9:AV->Bool
 | .agg cs=>D8 cs
 | v=>ux v
def OC:List AV->Bool
 | []=>true
 | v::r=>bif U9 v then OC r else false
theorem dO {v:AV} (h:U9 v=true):BI σ v=v:=by
 cases v with
 | agg cs=>simp only[U9]at h;simp only[BI,BV,IU h]
 | _=>first|rfl|cases h
theorem ZZ {σ:FR} : ∀ {vs:List AV} {i:Nat},OC vs=true -> ∀ j,j4 (CZ i vs) j=BI σ (j4 (CZ i vs) j)
 | [],_,_,_=>rfl
 | v::r,i,h,j=>by
  simp only[OC]at h;cases hv:U9 v<;>simp only[hv,cond_true,cond_false]at h
  ·cases h
  ·simp only[Aii,bU]
   split
   ·exact (dO hv).symm
   ·exact ZZ h j
theorem FX.x {f:Nat} {fn:AFn} {vs:List AV} {r:AV} (hL:L f=some fn) (hp:Nat.beq vs.length fn.ay=true) (hd:OC vs=true) (h:AA L [.code fn.body] (CZ 0 vs) [] (U5 fn r)):FX L f vs r:=by
 refine FX.fwd hL (BS.1 hp) (Acc (h (λ_ _=>(0,0)) ⟨CZ 0 vs,AH.emp⟩ ⟨λ j=>Or.inr ?_,?_⟩) ?_)
 ·rw[LB];exact ZZ hd j
 ·exact ⟨(λ_ _ _ e=>by cases e),(λ_ _ _ e=>by simp [c4,e8]at e),(λ_ _ _ e=>by simp [c4,e8]at e),(λ_ _ _ _ _ _ e=>by simp [c4,e8]at e),(λ_ _ _ e=>by simp [c4,e8]at e)⟩
 ·rintro s ⟨σ,tm,M,hr,hq⟩
  exact rH hr hq
theorem Ev.x {f:Nat} {fn:AFn} {vs:List AV} {r:AV} (hL:L f=some fn) (hp:Nat.beq vs.length fn.ay=true) (hd:OC vs=true) (h:AA L [.code fn.body] (CZ 0 vs) [] (U5 fn r)) (hs:fn.qu=false:=by rfl):Ev L f vs r:=(FX.x hL hp hd h).ev hL hs
def F5:List (Nat × Nat)->Nat->Nat
 | [],k=>k
 | (a,b)::r,k=>bif Nat.beq k a then b else F5 r k
def gF (τ:List (Nat × Nat)):AV->AV
 | .row k t z o n => .row (F5 τ k) t z o n
 | .ptr k t i j => .ptr (F5 τ k) t i j
 | v=>v
def VU (τ:List (Nat × Nat)):List AV->List AV
 | []=>[]
 | v::r=>gF τ v::VU τ r
def Y3 (τ:List (Nat × Nat)):AV->AV
 | .agg cs => .agg (VU τ cs)
 | .fn p f g cs => .fn p f g (VU τ cs)
 | v=>gF τ v
def gH (τ:List (Nat × Nat)):List AV->List AV
 | []=>[]
 | v::r=>Y3 τ v::gH τ r
def gG (τ:List (Nat × Nat)):AV->AV
 | .j5 cs => .j5 (gH τ cs)
 | v=>Y3 τ v
def gI (τ:List (Nat × Nat)):List (List AV)->List (List AV)
 | []=>[]
 | v::r=>VU τ v::gI τ r
def KR (τ:List (Nat × Nat)):A8->A8
 | .bx cs => .bx (VU τ cs)
 | .rw z es => .rw z es
 | .bs z es => .bs z (gI τ es)
 | .mx rows => .mx rows
 | .hx i v rows => .hx i v rows
 | .vw w rows => .vw w rows
variable {τ:List (Nat × Nat)}
theorem bG : ∀ l:List AV,VU τ l=l.map (gF τ)
 | []=>rfl
 | v::r=>by rw[VU,bG r];rfl
theorem Qb : ∀ l:List AV,gH τ l=l.map (Y3 τ)
 | []=>rfl
 | v::r=>by rw[gH,Qb r];rfl
theorem gZ (v:AV):A9 (λ k t=>σ (F5 τ k) t) v=A9 σ (gF τ v):=by cases v<;>rfl
theorem pK (v:AV):BV (λ k t=>σ (F5 τ k) t) v=BV σ (Y3 τ v):=by
 cases v with
 | agg cs=>simp only[BV,Y3,bG,List.map_map];exact congrArg AV.agg (List.map_congr_left λ v _=>gZ v)
 | fn p f g cs=>simp only[BV,Y3,bG,List.map_map];exact congrArg (AV.fn p f g) (List.map_congr_left λ v _=>gZ v)
 | _=>rfl
theorem AkT (v:AV):BI (λ k t=>σ (F5 τ k) t) v=BI σ (gG τ v):=by
 cases v with
 | j5 cs=>simp only[BI,gG,Qb,List.map_map];exact congrArg AV.j5 (List.map_congr_left λ v _=>pK v)
 | agg cs=>exact pK (.agg cs)
 | fn p f g cs=>exact pK (.fn p f g cs)
 | _=>rfl
theorem Qc : ∀ l:List (List AV),gI τ l=l.map (VU τ)
 | []=>rfl
 | v::r=>by rw[gI,Qc r];rfl
theorem aR {k:Nat} : ∀ (rows:List (Option (Nat × List (List AV)))) (i:Nat),B5 (λ k t=>σ (F5 τ k) t) k i rows=B5 σ (F5 τ k) i rows
 | [],i=>rfl
 | none::r,i=>by rw[B5,B5,aR r]
 | some (z,es)::r,i=>by rw[B5,B5,aR r]
theorem AdJ (c:A8) (k:Nat):c.g7 (λ k t=>σ (F5 τ k) t) k=(KR τ c).g7 σ (F5 τ k):=by
 cases c with
 | bx cs =>
  simp only[A8.g7,KR,bG,List.length_map,List.map_map];rw[List.map_congr_left λ v _=>gZ v];rfl
 | rw z es=>rfl
 | bs z es =>
  simp only[A8.g7,KR,Qc,List.map_map];congr 1;refine List.map_congr_left λ cs _ => ?_
  simp only[Function.comp,bG,List.map_map];exact List.map_congr_left λ v _=>gZ v
 | mx rows=>simp only[A8.g7,KR,aR]
 | hx i v rows=>simp only[A8.g7,KR,aR]
 | vw w rows=>simp only[A8.g7,KR,aR]
def zq (k s:Nat) (c:A8):Mem->Mem
 | []=>[(k,s,c)]
 | (j,s',c')::r=>bif Nat.beq k j then (k,s,c)::r else (j,s',c')::zq k s c r
def oc:Mem->Mem
 | []=>[]
 | (k,s,c)::r=>zq k s c (oc r)
theorem yU (k s:Nat) (c:A8) (j:Nat) : ∀ M:Mem,e8 (zq k s c M) j=bif Nat.beq j k then some (s,c) else e8 M j
 | []=>rfl
 | (i,s',c')::r=>by
  simp only[zq];cases hk:Nat.beq k i
  ·simp only[cond_false,e8,yU k s c j r]
   cases hj:Nat.beq j i<;>cases hjk:Nat.beq j k<;>simp only[cond_true,cond_false];exact absurd ((BS.1 hjk).symm.trans (BS.1 hj)) (FM.1 hk)
  ·obtain rfl:=BS.1 hk
   simp only[cond_true,e8];cases Nat.beq j k<;>rfl
theorem YT (j:Nat) : ∀ M:Mem,e8 (oc M) j=e8 M j
 | []=>rfl
 | (k,s,c)::r=>by simp only[oc,yU,YT j r,e8]
theorem eV (k t:Nat):c4 (oc M) k t=c4 M k t:=by simp only[c4,YT]
def zo (τ:List (Nat × Nat)) (M:Mem):List (Nat × Nat × A8)->List (Option (Nat × A8))
 | []=>[]
 | (k,_,_)::r=>e8 M (F5 τ k)::zo τ M r
def zp (τ:List (Nat × Nat)):List (Nat × Nat × A8)->List (Option (Nat × A8))
 | []=>[]
 | (_,s,c)::r=>some (s,KR τ c)::zp τ r
def Jr (tm:Tm):Tm->List AV
 | []=>[]
 | (j,_)::r=>tg tm j::Jr tm r
def Js (τ:List (Nat × Nat)):Tm->List AV
 | []=>[]
 | (_,v)::r=>gG τ v::Js τ r
def fG:List Nat->Bool
 | []=>true
 | k::r=>bif UG k r then false else fG r
def keys (τ:List (Nat × Nat)):Mem->List Nat
 | []=>[]
 | (k,_,_)::r=>F5 τ k::keys τ r
theorem yT : ∀ {M':Mem} {M:Mem},zo τ M M'=zp τ M' -> ∀ k s c,e8 M' k=some (s,c)->e8 M (F5 τ k)=some (s,KR τ c)
 | [],_,_,_,_,_,e=>by cases e
 | (i,s',c')::r,M,h,k,s,c,e=>by
  simp only[zo,zp,List.cons.injEq]at h;simp only[e8]at e;cases hb:Nat.beq k i<;>simp only[hb,cond_true,cond_false]at e
  ·exact yT h.2 k s c e
  ·simp only[Option.some.injEq,Prod.mk.injEq]at e
   obtain ⟨rfl,rfl⟩:=e;rw[BS.1 hb];exact h.1
theorem mR : ∀ {M:Mem} {k s:Nat} {c:A8},e8 M k=some (s,c)->UG (F5 τ k) (keys τ M)=true
 | (i,s',c')::r,k,s,c,e=>by
  simp only[e8]at e;simp only[keys,UG];cases hb:Nat.beq k i<;>simp only[hb,cond_true,cond_false]at e
  ·rw[mR e];cases Nat.beq (F5 τ k) (F5 τ i)<;>rfl
  ·rw[BS.1 hb];simp
theorem zQ : ∀ {M:Mem},fG (keys τ M)=true -> ∀ {k k' s s':Nat} {c c':A8},e8 M k=some (s,c)->e8 M k'=some (s',c')->F5 τ k=F5 τ k'->k=k'
 | [],_,_,_,_,_,_,_,e,_,_=>by cases e
 | (i,s0,c0)::r,h,k,k',s,s',c,c',e,e',hk=>by
  simp only[keys,fG]at h;cases hm:UG (F5 τ i) (keys τ r)<;>simp only[hm,cond_true,cond_false]at h
  ·simp only[e8]at e e'
   cases hb:Nat.beq k i<;>cases l7:Nat.beq k' i<;>simp only[hb,l7,cond_true,cond_false]at e e'
   ·exact zQ h e e' hk
   ·obtain rfl:=BS.1 l7
    have:=mR (τ:=τ) e
    rw[hk,hm]at this;cases this
   ·obtain rfl:=BS.1 hb
    have:=mR (τ:=τ) e'
    rw[<-hk,hm]at this;cases this
   ·exact (BS.1 hb).trans (BS.1 l7).symm
  ·cases h
theorem Tx : ∀ {bf:Tm} {tm:Tm},Jr tm bf=Js τ bf -> ∀ j,tg bf j = .any\/tg tm j=gG τ (tg bf j)
 | [],_,_,_=>Or.inl rfl
 | (i,v)::r,tm,h,j=>by
  simp only[Jr,Js,List.cons.injEq]at h;simp only[tg];cases hb:Nat.beq j i<;>simp only[cond_true,cond_false]
  ·exact Tx h.2 j
  ·rw[BS.1 hb];exact Or.inr h.1
def ae (ts:List Nat) (tm:Tm):Tm:=match ts with
 | []=>tm
 | t::ts=>wz (mask 0 (t::ts)) tm
def SW (τ:List (Nat × Nat)) (tm:Tm) (M:Mem) (bf:Tm) (M':Mem):Prop :=
 fT (wz 0 bf) λ l=>fM (oc M') λ m=>Jr tm l=Js τ l/\zo τ M m=zp τ m/\fG (keys τ m)=true
theorem BW {k:List It} {bf:Tm} {M':Mem} {Q:Tm->Mem->Prop} (τ:List (Nat × Nat)) (he:SW τ tm M bf M') (h:AA L k bf M' Q):AA L k tm M Q:=by
 unfold SW at he;rw[YK,OD]at he;obtain ⟨ht,hm,hn⟩:=he;intro σ st hr;have hg : ∀ k s c,e8 M' k=some (s,c)->e8 M (F5 τ k)=some (s,KR τ c):=λ k s c e=>yT hm k s c (by rw[YT];exact e)
 have ud : ∀ k t c,c4 M' k t=some c->c4 M (F5 τ k) t=some (KR τ c):=by
  intro k t c e;obtain ⟨s,c0,g1,g2,g3⟩:=HU e;have:=hg k s c0 g1
  cases t with
  | zero=>rw[g2 rfl];exact D4 this
  | succ i =>
   obtain ⟨rows,z,es,(rfl|⟨a,v,rfl⟩)|⟨w,rfl⟩,hr,rfl⟩:=g3 i rfl
   ·simp [c4,this,KR,hr]
   ·simp [c4,this,KR,hr]
   ·simp [c4,this,KR,hr]
 refine h (λ k t=>σ (F5 τ k) t) st ⟨λ j => ?_,⟨?_,?_,?_,?_,?_⟩⟩
 ·have:=Tx ht j
  rw[bS,jE,cond_false]at this;rcases this with e|e
  ·exact Or.inl e
  ·rcases hr.tm j with e'|e'
   ·left
    rw[e']at e;cases hv:tg bf j<;>rw[hv]at e<;>first|rfl|cases e
   ·right
    rw[e',e,AkT]
 ·intro k s c e;exact hr.sat.site _ _ _ (hg k s c e)
 ·intro k t c e;rw[AdJ];exact hr.sat.g7 _ _ _ (ud k t c e)
 ·intro k t c e;exact hr.sat.old _ _ _ (ud k t c e)
 ·intro k t k' t' c c' e e' hk
  obtain ⟨q1,q2⟩:=hr.sat.inj _ _ _ _ _ _ (ud _ _ _ e) (ud _ _ _ e') hk;obtain ⟨s,c0,g,_⟩:=HU e;obtain ⟨s',c0',g',_⟩:=HU e';exact ⟨zQ hn (by rw[YT];exact g) (by rw[YT];exact g') q1,q2⟩
 ·intro k t c e hw
  exact hr.sat.low _ _ _ (ud k t c e) (by cases c<;>exact hw)
theorem BG {k:List It} {bf:Tm} {M':Mem} {Q:Tm->Mem->Prop} (τ:List (Nat × Nat)) (h:AA L k bf M' Q) (he:SW τ tm M bf M':=by (conv=>whnf);exact ⟨rfl,rfl,rfl⟩):AA L k tm M Q:=BW τ he h
theorem qJ {k:List It} {Q:Tm->Mem->Prop} (h:AA L k (wz 0 tm) (oc M) Q):AA L k tm M Q:=by
 intro σ st hr;refine h σ st ⟨λ j => ?_,⟨?_,?_,?_,?_,?_⟩⟩
 ·rw[bS,jE,cond_false];exact hr.tm j
 ·intro k s c e;rw[YT]at e;exact hr.sat.site _ _ _ e
 ·intro k t c e;rw[eV]at e;exact hr.sat.g7 _ _ _ e
 ·intro k t c e;rw[eV]at e;exact hr.sat.old _ _ _ e
 ·intro k t k' t' c c' e e' hk
  rw[eV]at e e';exact hr.sat.inj _ _ _ _ _ _ e e' hk
 ·intro k t c e hw;rw[eV]at e;exact hr.sat.low _ _ _ e hw
def wx (k:Nat) (c:A8):Mem->Mem
 | []=>[]
 | (j,s,c')::r=>bif Nat.beq k j then (j,s,c)::r else (j,s,c')::wx k c r
theorem eT {k j s:Nat} {c c':A8} : ∀ {M:Mem},e8 (wx k c M) j=some (s,c') -> ∃ c0,e8 M j=some (s,c0)/\(c0=c'\/(j=k/\c'=c))
 | [],e=>by cases e
 | (i,s0,c0)::r,e=>by
  simp only[wx]at e;cases hk:Nat.beq k i<;>simp only[hk,cond_true,cond_false,e8]at e ⊢
  ·cases hj:Nat.beq j i<;>simp only[hj,cond_true,cond_false]at e ⊢
   ·exact eT e
   ·exact ⟨c',e,Or.inl rfl⟩
  ·cases hj:Nat.beq j i<;>simp only[hj,cond_true,cond_false]at e ⊢
   ·exact ⟨c',e,Or.inl rfl⟩
   ·simp only[Option.some.injEq,Prod.mk.injEq]at e
    obtain ⟨rfl,rfl⟩:=e;exact ⟨c0,rfl,Or.inr ⟨(BS.1 hj).trans (BS.1 hk).symm,rfl⟩⟩
theorem bX {kk:List It} {Q:Tm->Mem->Prop} (k s:Nat) (e:e8 M k=some (s,.rw 1 [])) (h:AA L kk tm (wx k (.mx []) M) Q):AA L kk tm M Q:=by
 intro σ st hr;have hg : ∀ j t c,c4 (wx k (.mx []) M) j t=some c -> ∃ c0,c4 M j t=some c0/\c0.g7 σ j=c.g7 σ j:=by
  intro j t c g;obtain ⟨s1,c1,g1,g2,g3⟩:=HU g;obtain ⟨c0,q1,q2⟩:=eT g1;cases t with
  | zero =>
   rw[g2 rfl];rcases q2 with rfl|⟨rfl,rfl⟩
   ·exact ⟨_,D4 q1,rfl⟩
   ·rw[e]at q1
    simp only[Option.some.injEq,Prod.mk.injEq]at q1;obtain ⟨rfl,rfl⟩:=q1;exact ⟨_,D4 e,rfl⟩
  | succ i =>
   obtain ⟨rows,z,es,(rfl|⟨a,v,rfl⟩)|⟨w,rfl⟩,Da,rfl⟩:=g3 i rfl
   ·rcases q2 with rfl|⟨rfl,h0⟩
    ·exact ⟨.rw z es,by simp [c4,q1,Da],rfl⟩
    ·obtain rfl:rows=[]:=by simpa using h0
     simp at Da
   ·rcases q2 with rfl|⟨rfl,h0⟩
    ·exact ⟨.rw z es,by simp [c4,q1,Da],rfl⟩
    ·cases h0
   ·rcases q2 with rfl|⟨rfl,h0⟩
    ·exact ⟨.rw z es,by simp [c4,q1,Da],rfl⟩
    ·cases h0
 refine h σ st ⟨hr.tm,⟨?_,?_,?_,?_,?_⟩⟩
 ·intro j s' c g
  obtain ⟨c0,q1,_⟩:=eT g;exact hr.sat.site _ _ _ q1
 ·intro j t c g
  obtain ⟨c0,q1,q2⟩:=hg j t c g;rw[<-q2];exact hr.sat.g7 _ _ _ q1
 ·intro j t c g
  obtain ⟨c0,q1,_⟩:=hg j t c g;exact hr.sat.old _ _ _ q1
 ·intro j t j' t' c c' g g' hj
  obtain ⟨_,q1,_⟩:=hg j t c g;obtain ⟨_,q2,_⟩:=hg j' t' c' g';exact hr.sat.inj _ _ _ _ _ _ q1 q2 hj
 ·intro j t c g hw
  cases t with
  | zero =>
   obtain ⟨s1,c1,g1,g2,g3⟩:=HU g;obtain ⟨c0,q1,q2⟩:=eT g1;have g2:=g2 rfl;subst g2;rcases q2 with rfl|⟨rfl,rfl⟩
   ·exact hr.sat.low _ _ _ (D4 q1) hw
   ·exact hr.sat.low _ _ _ (D4 e) rfl
  | succ t =>
   obtain ⟨c0,q1,_⟩:=hg _ _ _ g;exact hr.sat.low _ _ _ q1 (fA q1)
theorem GH {k:List It} {c:BJ} {Q:Tm->Mem->Prop} (h:AA L (.code c :: .lp c::k) tm M Q):AA L (.lp c::k) tm M Q:=λ σ st hr=>qL.2 (h σ st hr)
theorem XQ {α:Type} {k:List It} {c:BJ} {Q:Tm->Mem->Prop} (m:α->Nat) (P:α->Prop) (vs:α->Tm) (Ms:α->Mem) (ts:List Nat) (τ:List (Nat × Nat)) (a:α)
  (he:SW τ tm M (vs a++ae ts tm) (Ms a++M)) (hp:P a)
  (step : ∀ a,P a->(∀ a',m a'<m a->P a'->AA L (.lp c::k) (vs a'++ae ts tm) (Ms a'++M) Q)->AA L (.code c :: .lp c::k) (vs a++ae ts tm) (Ms a++M) Q):AA L (.lp c::k) tm M Q:=by
 have key : ∀ n a,m a<n->P a->AA L (.lp c::k) (vs a++ae ts tm) (Ms a++M) Q:=by
  intro n;induction n with
  | zero=>intro a h;omega
  | succ n ih =>
   intro a ha hp;exact GH (step a hp λ a' h1 h2=>ih a' (by omega) h2)
 exact BW τ he (key (m a+1) a (by omega) hp)
end
end Go.c9
namespace Go.c9
section
variable {α:Type} {enc:α->List AV} {l:List α} {L:Lib}
theorem AG {p q A B:Prop} (h1:p->A) (h2:q->B):AF p q A B:=⟨h1,h2⟩
theorem AZ {p A:Prop} (h1:p) (h2:A):AP p A:=⟨h1,h2⟩
section
variable {K:AV->Prop} {a b:Int} {k k':IntKind} {op:BinOp}
theorem cG {v:AV} (h:DM op k a k' b=some v) (hk:K v):AD op k a k' b K:=⟨v,h,hk⟩
theorem AU (hr : -9223372036854775808<=a+b/\a+b<=9223372036854775807) (hk:K (.int .i64 (a+b))):AD .add .i64 a .i64 b K:=⟨_,by simp only[DM,if_true];rw[IntWalk.i64_in _ hr],hk⟩
theorem B7 (hr : -9223372036854775808<=a-b/\a-b<=9223372036854775807) (hk:K (.int .i64 (a-b))):AD .sub .i64 a .i64 b K:=⟨_,by simp only[DM,if_true];rw[IntWalk.i64_in _ hr],hk⟩
theorem EK (hr : -9223372036854775808<=a*b/\a*b<=9223372036854775807) (hk:K (.int .i64 (a*b))):AD .mul .i64 a .i64 b K:=⟨_,by simp only[DM,if_true];rw[IntWalk.i64_in _ hr],hk⟩
theorem XY (hb:0<b) (h1:(0<=a\/a%b=0)->0<=a%b->a%b<b->K (.int .i64 (a%b))) (h2:a<0->a%b≠0->0<=a%b->a%b<b->K (.int .i64 (a%b-b))):AD .rem .i64 a .i64 b K:=by
 have h5:0<=a%b:=Int.emod_nonneg _ (by omega);have h6:a%b<b:=Int.emod_lt_of_pos _ hb;have e:DM .rem .i64 a .i64 b=some (.int .i64 (a.tmod b)):=by simp only[DM];rw[if_pos ⟨trivial,by omega⟩]
 by_cases hc:0<=a\/a%b=0
 ·rw[Rv hb,if_pos hc]at e
  exact ⟨_,e,h1 hc h5 h6⟩
 ·rw[Rv hb,if_neg hc]at e
  exact ⟨_,e,h2 (by omega) (by omega) h5 h6⟩
theorem OW (hb:0<b) (ha : -9223372036854775808<=a/\a<=9223372036854775807) (h1:(0<=a\/a%b=0)->K (.int .i64 (a/b))) (h2:a<0->a%b≠0->K (.int .i64 (a/b+1))):AD .quo .i64 a .i64 b K:=by
 have hr:=AfV (m:=b) (by omega) ha;have e:DM .quo .i64 a .i64 b=some (.int .i64 (IntKind.i64.wrap (a.tdiv b))):=by simp only[DM];rw[if_pos ⟨trivial,by omega⟩]
 by_cases hc:0<=a\/a%b=0
 ·rw[Tw hb,if_pos hc,IntWalk.i64_in _ hr]at e
  exact ⟨_,e,h1 hc⟩
 ·have Avk:a/b<0:=Int.ediv_neg_of_neg_of_pos (by omega) hb
  rw[Tw hb,if_neg hc,IntWalk.i64_in _ (by omega)]at e;exact ⟨_,e,h2 (by omega) (by omega)⟩
theorem Zi (h:0<=b/\b<=63) (hk:K (.int .i64 (a/pw b))):AD .shr .i64 a k' b K:=⟨_,AkB h,hk⟩
theorem Zk (hk:K (.int k (k.wrap (a+b)))):AD .add k a k b K:=⟨_,by simp only[DM,if_true],hk⟩
theorem CI.neg (hr : -9223372036854775808 <= -a /\ -a<=9223372036854775807) (hk:K (.int .i64 (-a))):CI .neg .i64 a K:=⟨_,by simp only[VZ];rw[show (0:Int)-a = -a by omega,IntWalk.i64_in _ hr],hk⟩
theorem CI.go {op:UnOp} {v:AV} (h:VZ op (.int k a)=some v) (hk:K v):CI op k a K:=⟨v,h,hk⟩
end
theorem ZE {k:IntKind} {n:Int} {K:Int->Prop} (e:k.wrap n=n) (h:K n):AY k n K:=by unfold AY;rw[e];exact h
theorem CR {n:Int} {K:Int->Prop} (hr:0<=n/\n<=18446744073709551615) (h:K n):AY .u64 n K:=ZE (IntWalk.u64_in _ hr) h
theorem V2 {n:Int} {K:Int->Prop} (hr : -9223372036854775808<=n/\n<=9223372036854775807) (h:K n):AY .i64 n K:=ZE (IntWalk.i64_in _ hr) h
theorem BA {a:Int} {z:Nat} {K:List AV->Prop} {e:α} (he:l[a.toNat]? = some e) (h0:0<=a) (hz:(enc e).length=z) (h:K (enc e)):AW (l.map enc) a z K:=⟨h0,enc e,by simp [he],hz,h⟩
theorem iS {a:Int} {z:Nat} {K:List AV->Prop} (h0:0<=a/\a<l.length) (hz : ∀ e,(enc e).length=z) (h : ∀ e,l[a.toNat]? = some e->K (enc e)):AW (l.map enc) a z K:=by
 have he:l[a.toNat]? = some (l[a.toNat]'(by omega)):=zE _;exact BA he h0.1 (hz _) (h _ he)
theorem Zn {n z:Nat} {K:List AV->Prop} (hn:n<l.length) (hz : ∀ e,(enc e).length=z) (h : ∀ e,l[n]? = some e->K (enc e)):AW (l.map enc) (n:Int) z K :=
 iS ⟨by omega,by omega⟩ hz h
theorem F9 {i j n:Nat} {K:List AV->Prop} {f:α->List AV} (hi:i<l.length) (hp : ∀ e,part (enc e) j n=some (f e)) (h : ∀ e,l[i]? = some e->K (f e)):A6 (l.map enc) (0+((i:Int)).toNat) j n K:=by
 have he:l[i]? = some l[i]:=zE _;rw[Nat.zero_add,Int.toNat_natCast];exact ⟨enc l[i],f l[i],by simp [he],hp _,h _ he⟩
theorem cE {i:Int} {j n:Nat} {K:List AV->Prop} {f:α->List AV} (hi:0<=i/\i<l.length) (hp : ∀ e,part (enc e) j n=some (f e)) (h : ∀ e,l[i.toNat]? = some e->K (f e)):A6 (l.map enc) (0+i.toNat) j n K:=by
 have hl:i.toNat<l.length:=by omega
 have he:l[i.toNat]? = some l[i.toNat]:=zE _;rw[Nat.zero_add];exact ⟨enc l[i.toNat],f l[i.toNat],by rw[List.getElem?_map,he];rfl,hp _,h _ he⟩
theorem FF {i:Nat} {vs:List AV} {K:List (List AV)->Prop} (e:α) (he:vs=enc e) (hz : ∀ x,(enc x).length=vs.length) (hi:i<l.length) (h:K ((l.set i e).map enc)):A5 (l.map enc) (0+((i:Int)).toNat) 0 vs K:=by
 rw[Nat.zero_add,Int.toNat_natCast];refine ⟨enc l[i],by simp [zE hi],by rw[hz];omega,?_⟩;rw[show splice (enc l[i]) 0 vs=vs by simp [splice,<-hz l[i]],he,<-List.map_set];exact h
theorem XX {i j n:Nat} {K:List AV->Prop} {e:α} {ds:List AV} (he:l[i]? = some e) (hp:part (enc e) j n=some ds) (h:K ds):A6 (l.map enc) i j n K:=⟨enc e,ds,by simp [he],hp,h⟩
theorem AkQ {cs vs:List AV} (h:cs.length=vs.length):splice cs 0 vs=vs:=by
 simp [splice,<-h]
theorem Zt {i:Nat} {vs:List AV} {K:List (List AV)->Prop} (e:α) (he:vs=enc e) (hz : ∀ x,(enc x).length=vs.length) (hi:i<l.length) (h:K ((l.set i e).map enc)):A5 (l.map enc) i 0 vs K:=by
 refine ⟨enc l[i],by simp [zE hi],by rw[hz];omega,?_⟩;rw[AkQ (hz _),he,<-List.map_set];exact h
theorem EJ {a b:Int} {bytes:Nat} {zero:List AV} {K:List (List AV)->Nat->Prop} (x:α) (n:Nat) (hx:zero=enc x) (hn:a=n) (hr:a<=b/\b*bytes<=140737488355328/\b<=9223372036854775807) (h:K ((List.replicate n x).map enc) n):B2 a b bytes zero K:=by
 subst hn hx;refine ⟨⟨by omega,hr.1,by simpa [EA] using hr.2.1,hr.2.2⟩,?_⟩;simpa using h
theorem AR {K:Nat->Prop} (h:K l.length):AM (l.map enc) K:=by unfold AM;simpa using h
theorem EO {len z bytes:Nat} {vs:List AV} {K:List (List AV)->Nat->Prop} (e:α) (he:vs=enc e) (hl:len=l.length) (hz:vs.length=z) (hr:(l.length+1)*bytes<=140737488355328) (bj:l.length+1<=9223372036854775807) (h:K ((l++[e]).map enc) (l++[e]).length):BQ (l.map enc) len [vs] z bytes K:=by
 subst hl;refine ⟨by simp,by simpa using hz,by simpa [EA] using hr,by simpa using bj,?_⟩;rw[List.take_of_length_le (by simp)];simpa [he] using h
theorem bZ {len z bytes:Nat} {l':List α} {K:List (List AV)->Nat->Prop} (hl:len=l.length) (hz : ∀ x,(enc x).length=z) (hr:(l.length+l'.length)*bytes<=140737488355328) (bj:l.length+l'.length<=9223372036854775807) (h:K ((l++l').map enc) (l++l').length):BQ (l.map enc) len (l'.map enc) z bytes K:=by
 subst hl;refine ⟨by simp,by simp [hz],by simpa [EA] using hr,by simpa using bj,?_⟩;rw[List.take_of_length_le (by simp)];simpa using h
theorem ZD {z bytes:Nat} {vs:List AV} {K:List (List AV)->Nat->Prop} (e:α) (he:vs=enc e) (hz:vs.length=z) (hb:bytes<=140737488355328) (h:K ([e].map enc) 1):B8 [vs] z bytes K :=
 ⟨by simpa using hz,by simpa [EA] using hb,by simp,by simpa [he] using h⟩
theorem U0 {z bytes:Nat} {K:List (List AV)->Nat->Prop} (hz : ∀ x,(enc x).length=z) (hr:l.length*bytes<=140737488355328) (bj:l.length<=9223372036854775807) (h:K (l.map enc) l.length):B8 (l.map enc) z bytes K :=
 ⟨by simp [hz],by simpa [EA] using hr,by simpa using bj,by simpa using h⟩
theorem cO {off len:Nat} {K:List (List AV)->Prop} (hl:off+len<=l.length) (h:K (((l.drop off).take len).map enc)):BM (l.map enc) off len K :=
 ⟨by simpa using hl,by rw[<-List.map_drop,<-List.map_take];exact h⟩
theorem nJ : ∀ {e:List AV},FU e=true->QF e=true/\e.map nl=e
 | [],_=>⟨rfl,rfl⟩
 | v::r,h=>by
  have hv:FU r=true:=by cases v<;>simp only[FU]at h<;>first|cases h|exact h
  obtain ⟨h1,h2⟩:=nJ hv;cases v<;>simp only[FU]at h<;>first|cases h|exact ⟨h1,by rw[List.map_cons,h2];rfl⟩
theorem zU : ∀ {es:List (List AV)},(∀ e∈es,FU e=true)->es.map (λ e=>e.map nl)=es
 | [],_=>rfl
 | e::r,h=>by rw[List.map_cons,(nJ (h e List.mem_cons_self)).2,zU λ x hx=>h x (List.mem_cons_of_mem _ hx)]
theorem ZM {es:List (List AV)} {off len:Nat} {K:List (List AV)->Prop} (hl:off+len<=es.length) (hz : ∀ e∈es,FU e=true) (h:K ((es.drop off).take len)):A1 es off len K :=
 ⟨hl,λ e he=>(nJ (hz e he)).1,by rw[zU λ e he=>hz e (List.mem_of_mem_drop (List.mem_of_mem_take he))];exact h⟩
theorem C9 {off len:Nat} {K:List (List AV)->Prop} (hz : ∀ x,FU (enc x)=true) (ho:off=0) (hl:len=l.length) (h:K (l.map enc)):A1 (l.map enc) off len K:=by
 subst hl ho;refine ZM (by simp) (λ e he => ?_) (by rw[List.drop_zero,List.take_of_length_le (by simp)];exact h);obtain ⟨x,_,rfl⟩:=List.mem_map.1 he;exact hz x
theorem H5 {off len:Nat} {K:List (List AV)->Prop} (hz : ∀ x,FU (enc x)=true) (hl:off+len<=l.length) (h:K (((l.drop off).take len).map enc)):A1 (l.map enc) off len K:=by
 refine ZM (by simpa using hl) (λ e he => ?_) (by rw[<-List.map_drop,<-List.map_take];exact h);obtain ⟨x,_,rfl⟩:=List.mem_map.1 he;exact hz x
theorem DW {e:List AV} {K:List (List AV)->Prop} (h:K [e]):BM [e] 0 1 K:=⟨by simp,h⟩
theorem Zs {K:List (List AV)->Prop} (h:K []):A1 [] 0 0 K:=⟨by simp,by simp,h⟩
theorem JQ {e:List AV} {K:List (List AV)->Prop} (h0:FU e=true) (h:K [e]):A1 [e] 0 1 K:=ZM (by simp) (by simpa using h0) h
theorem X0 {e e':List AV} {K:List (List AV)->Prop} (h0:FU e=true) (h1:FU e'=true) (h:K [e,e']):A1 [e,e'] 0 2 K:=ZM (by simp) (by simpa using ⟨h0,h1⟩) h
section
variable {β:Type} {z:Nat} {ll:List (List β)} {en:β->List AV}
abbrev BK (z:Nat) (en:β->List AV) (ll:List (List β)):List (Option (Nat × List (List AV))):=ll.map λ r=>some (z,r.map en)
theorem FY {i:Nat} {K:Option (Nat × List (List AV))->Prop} (hi:i<ll.length) (h : ∀ r,ll[i]? = some r->K (some (z,r.map en))):BO (BK z en ll) (0+((i:Int)).toNat) K:=by
 have he:ll[i]? = some ll[i]:=zE _;exact ⟨_,by rw[Nat.zero_add,Int.toNat_natCast,List.getElem?_map,he];rfl,h _ he⟩
theorem Yu {i:Nat} {K:Nat->List (List AV)->Prop} {r:List β} (hr:ll[i]? = some r) (h:K z (r.map en)):BH (BK z en ll) i K :=
 ⟨z,r.map en,by rw[List.getElem?_map,hr];rfl,h⟩
theorem GJ {i:Nat} {K:Nat->List (List AV)->Prop} {r:List β} (hr:ll[i]? = some r) (h:K z (r.map en)):BH (BK z en ll) (0+((i:Int)).toNat) K:=by
 rw[Nat.zero_add,Int.toNat_natCast];exact Yu hr h
theorem iR {i:Nat} {r r':List β} {K:List (Option (Nat × List (List AV)))->Prop} (hl:r'.length=r.length) (h:K (BK z en (ll.set i r'))):CK (BK z en ll) (0+((i:Int)).toNat) z (r.map en) (r'.map en) K:=by
 rw[Nat.zero_add,Int.toNat_natCast];exact ⟨by simpa using hl,by simpa [BK,List.map_set] using h⟩
theorem XR {len bytes:Nat} {r:List β} {K:List (Option (Nat × List (List AV)))->Nat->Prop} (hl:len=ll.length) (hr:(ll.length+1)*bytes<=140737488355328) (bj:ll.length+1<=9223372036854775807) (h:K (BK z en (ll++[r])) (ll++[r]).length):CP (BK z en ll) len (some (z,r.map en)) bytes K:=by
 subst hl;exact ⟨by simp,by simpa [EA] using hr,bj,by simpa [BK] using h⟩
theorem Qe (q:Bool) : ∀ ll:List (List β),VV q (BK z en ll)=ll.map λ r=>[AV.sl q (r.map en)]
 | []=>rfl
 | r::l=>by simp only[BK,List.map_cons,VV];rw[show VV q (l.map λ r=>some (z,r.map en))=_ from Qe q l]
theorem J4 {q:Bool} {off len:Nat} {K:List (List AV)->Prop} (hz : ∀ x,FU (en x)=true) (ho:off=0) (hl:len=ll.length) (h:K (ll.map λ r=>[AV.sl q (r.map en)])):CD q (BK z en ll) off len K:=by
 refine ⟨ho,by simpa using hl,λ z' es hm e he => ?_,by rw[Qe];exact h⟩;obtain ⟨r,_,hr⟩:=List.mem_map.1 hm;simp only[Option.some.injEq,Prod.mk.injEq]at hr;obtain ⟨rfl,rfl⟩:=hr;obtain ⟨x,_,rfl⟩:=List.mem_map.1 he;exact hz x
end
theorem Acx {len:Nat} {a:Int} {K:Nat->Nat->Prop} (h0:0<=a/\a<=len) (h:K a.toNat len):BR (some a) none len K:=⟨a.toNat,len,⟨h0.1,rfl⟩,rfl,by omega,h⟩
theorem qN {len:Nat} {b:Int} {K:Nat->Nat->Prop} (h0:0<=b/\b<=len) (h:K 0 b.toNat):BR none (some b) len K:=⟨0,b.toNat,rfl,⟨h0.1,h0.2,rfl⟩,by omega,h⟩
theorem U1 {len:Nat} {a b:Int} {K:Nat->Nat->Prop} (h0:0<=a/\a<=b/\b<=len) (h:K a.toNat b.toNat):BR (some a) (some b) len K:=⟨a.toNat,b.toNat,⟨h0.1,rfl⟩,⟨by omega,by omega,rfl⟩,by omega,h⟩
theorem rI {z:Nat} {lo hi:Option Int} {K:List (List AV)->Prop} (hz : ∀ x,(enc x).length=z) (h:BR lo hi l.length λ a h=>K (((l.take h).drop a).map enc)):B9 z (l.map enc) lo hi K:=by
 refine ⟨by simp [hz],?_⟩;rw[List.length_map];obtain ⟨a,b,h1,h2,h3,h4⟩:=h;refine ⟨a,b,h1,h2,h3,?_⟩;show K _;rw[<-List.map_take,<-List.map_drop];exact h4
theorem V8 {z k:Nat} {K:List (List AV)->Prop} (hz : ∀ x,(enc x).length=z) (hk:k<=l.length) (h:K ((l.take k).map enc)):B9 z (l.map enc) none (some (k:Int)) K :=
 rI hz (qN (by omega) (by simpa using h))
theorem Zr {z k:Nat} {K:List (List AV)->Prop} (hz : ∀ x,(enc x).length=z) (hk:k<=l.length) (h:K ((l.drop k).map enc)):B9 z (l.map enc) (some (k:Int)) none K :=
 rI hz (Acx (by omega) (by simpa using h))
theorem AC {f:Nat} {vs:List AV} {K:AV->Prop} {r:AV} (h:Ev L f vs r) (hk:K r):AB L f vs K:=⟨r,h,hk⟩
theorem qO {f:Nat} {vs:List AV} {K:AV->Prop} {p:Prop} [Decidable p] (h:Ev L f vs (.bool (decide p))) (h1:p->K (.bool true)) (h2 : ¬ p->K (.bool false)):AB L f vs K:=by
 refine ⟨_,h,?_⟩;by_cases e:p
 ·rw[decide_eq_true e];exact h1 e
 ·rw[decide_eq_false e];exact h2 e
theorem AX {a r:AV} (h:a=r) (hc:A3 r):AJ a r:=⟨h,hc⟩
theorem IJ {a r:Bool} (h:a=r):AJ (.bool a) (.bool r):=⟨by rw[h],by simp [A3]⟩
theorem Yt {p:Prop} [Decidable p] (h:p):AJ (.bool true) (.bool (decide p)):=⟨by simp [h],by simp [A3]⟩
theorem qU {p:Prop} [Decidable p] (h : ¬ p):AJ (.bool false) (.bool (decide p)):=⟨by simp [h],by simp [A3]⟩
theorem C2 {k:IntKind} {a b:Int} (h:a=b):AJ (.int k a) (.int k b):=⟨by rw[h],by simp [A3]⟩
theorem X6 (h : ∀ x,CG (enc x)) : ∀ l:List α,FP (l.map enc)
 | []=>by simp [FP]
 | x::r=>by rw[List.map_cons,FP];exact ⟨h x,X6 h r⟩
end
theorem BP {α:Type} {L:Lib} {k:List It} {cd:BJ} {tm:Tm} {M:Mem} {Q:Tm->Mem->Prop} (m:α->Nat) (P:α->Prop) (vs:α->Tm) (Ms:α->Mem) (ts:List Nat) (τ:List (Nat × Nat)) (a:α)
  (he:SW τ tm M (vs a++ae ts tm) (Ms a++M)) (hp:P a)
  (step : ∀ a,P a->(∀ a',m a'<m a->P a'->AA L (.lp cd::k) (vs a'++ae ts tm) (Ms a'++M) Q)->AA L (.code cd :: .lp cd::k) (vs a++ae ts tm) (Ms a++M) Q):AA L (.lp cd::k) tm M Q :=
 XQ (α:=α) (λ x=>m x) (λ x=>P x) (λ x=>vs x) (λ x=>Ms x) ts τ a he hp λ a h ih=>step a h λ a' h1 h2=>ih a' h1 h2
theorem FV {α β:Type} {L:Lib} {k:List It} {cd:BJ} {tm:Tm} {M:Mem} {Q:Tm->Mem->Prop} (m:α->β->Nat) (P:α->β->Prop) (vs:α->β->Tm) (Ms:α->β->Mem) (ts:List Nat) (τ:List (Nat × Nat)) (a:α) (b:β)
  (he:SW τ tm M (vs a b++ae ts tm) (Ms a b++M)) (hp:P a b)
  (step : ∀ a b,P a b->(∀ a' b',m a' b'<m a b->P a' b'->AA L (.lp cd::k) (vs a' b'++ae ts tm) (Ms a' b'++M) Q)->AA L (.code cd :: .lp cd::k) (vs a b++ae ts tm) (Ms a b++M) Q):AA L (.lp cd::k) tm M Q :=
 XQ (α:=α × β) (λ x=>m x.1 x.2) (λ x=>P x.1 x.2) (λ x=>vs x.1 x.2) (λ x=>Ms x.1 x.2) ts τ (a,b) he hp λ⟨a,b⟩ h ih=>step a b h λ a' b' h1 h2=>ih (a',b') h1 h2
theorem GR {α β γ:Type} {L:Lib} {k:List It} {cd:BJ} {tm:Tm} {M:Mem} {Q:Tm->Mem->Prop} (m:α->β->γ->Nat) (P:α->β->γ->Prop) (vs:α->β->γ->Tm) (Ms:α->β->γ->Mem) (ts:List Nat) (τ:List (Nat × Nat)) (a:α) (b:β) (c:γ)
  (he:SW τ tm M (vs a b c++ae ts tm) (Ms a b c++M)) (hp:P a b c)
  (step : ∀ a b c,P a b c->(∀ a' b' c',m a' b' c'<m a b c->P a' b' c'->AA L (.lp cd::k) (vs a' b' c'++ae ts tm) (Ms a' b' c'++M) Q)->AA L (.code cd :: .lp cd::k) (vs a b c++ae ts tm) (Ms a b c++M) Q):AA L (.lp cd::k) tm M Q :=
 XQ (α:=α × β × γ) (λ x=>m x.1 x.2.1 x.2.2) (λ x=>P x.1 x.2.1 x.2.2) (λ x=>vs x.1 x.2.1 x.2.2) (λ x=>Ms x.1 x.2.1 x.2.2) ts τ (a,b,c) he hp λ⟨a,b,c⟩ h ih=>step a b c h λ a' b' c' h1 h2=>ih (a',b',c') h1 h2
theorem bW {α β γ δ:Type} {L:Lib} {k:List It} {cd:BJ} {tm:Tm} {M:Mem} {Q:Tm->Mem->Prop} (m:α->β->γ->δ->Nat) (P:α->β->γ->δ->Prop) (vs:α->β->γ->δ->Tm) (Ms:α->β->γ->δ->Mem) (ts:List Nat) (τ:List (Nat × Nat)) (a:α) (b:β) (c:γ) (d:δ)
  (he:SW τ tm M (vs a b c d++ae ts tm) (Ms a b c d++M)) (hp:P a b c d)
  (step : ∀ a b c d,P a b c d->(∀ a' b' c' d',m a' b' c' d'<m a b c d->P a' b' c' d'->AA L (.lp cd::k) (vs a' b' c' d'++ae ts tm) (Ms a' b' c' d'++M) Q)->AA L (.code cd :: .lp cd::k) (vs a b c d++ae ts tm) (Ms a b c d++M) Q):AA L (.lp cd::k) tm M Q :=
 XQ (α:=α × β × γ × δ) (λ x=>m x.1 x.2.1 x.2.2.1 x.2.2.2) (λ x=>P x.1 x.2.1 x.2.2.1 x.2.2.2) (λ x=>vs x.1 x.2.1 x.2.2.1 x.2.2.2) (λ x=>Ms x.1 x.2.1 x.2.2.1 x.2.2.2) ts τ (a,b,c,d) he hp λ⟨a,b,c,d⟩ h ih=>step a b c d h λ a' b' c' d' h1 h2=>ih (a',b',c',d') h1 h2
theorem Yg {α β γ δ ε:Type} {L:Lib} {k:List It} {cd:BJ} {tm:Tm} {M:Mem} {Q:Tm->Mem->Prop} (m:α->β->γ->δ->ε->Nat) (P:α->β->γ->δ->ε->Prop) (vs:α->β->γ->δ->ε->Tm) (Ms:α->β->γ->δ->ε->Mem) (ts:List Nat) (τ:List (Nat × Nat)) (a:α) (b:β) (c:γ) (d:δ) (e:ε)
  (he:SW τ tm M (vs a b c d e++ae ts tm) (Ms a b c d e++M)) (hp:P a b c d e)
  (step : ∀ a b c d e,P a b c d e->(∀ a' b' c' d' e',m a' b' c' d' e'<m a b c d e->P a' b' c' d' e'->AA L (.lp cd::k) (vs a' b' c' d' e'++ae ts tm) (Ms a' b' c' d' e'++M) Q)->AA L (.code cd :: .lp cd::k) (vs a b c d e++ae ts tm) (Ms a b c d e++M) Q):AA L (.lp cd::k) tm M Q :=
 XQ (α:=α × β × γ × δ × ε) (λ x=>m x.1 x.2.1 x.2.2.1 x.2.2.2.1 x.2.2.2.2) (λ x=>P x.1 x.2.1 x.2.2.1 x.2.2.2.1 x.2.2.2.2) (λ x=>vs x.1 x.2.1 x.2.2.1 x.2.2.2.1 x.2.2.2.2) (λ x=>Ms x.1 x.2.1 x.2.2.1 x.2.2.2.1 x.2.2.2.2) ts τ (a,b,c,d,e) he hp λ⟨a,b,c,d,e⟩ h ih=>step a b c d e h λ a' b' c' d' e' h1 h2=>ih (a',b',c',d',e') h1 h2
theorem Xw {α β γ δ ε ζ:Type} {L:Lib} {k:List It} {cd:BJ} {tm:Tm} {M:Mem} {Q:Tm->Mem->Prop} (m:α->β->γ->δ->ε->ζ->Nat) (P:α->β->γ->δ->ε->ζ->Prop) (vs:α->β->γ->δ->ε->ζ->Tm) (Ms:α->β->γ->δ->ε->ζ->Mem) (ts:List Nat) (τ:List (Nat × Nat)) (a:α) (b:β) (c:γ) (d:δ) (e:ε) (f:ζ)
  (he:SW τ tm M (vs a b c d e f++ae ts tm) (Ms a b c d e f++M)) (hp:P a b c d e f)
  (step : ∀ a b c d e f,P a b c d e f->(∀ a' b' c' d' e' f',m a' b' c' d' e' f'<m a b c d e f->P a' b' c' d' e' f'->AA L (.lp cd::k) (vs a' b' c' d' e' f'++ae ts tm) (Ms a' b' c' d' e' f'++M) Q)->AA L (.code cd :: .lp cd::k) (vs a b c d e f++ae ts tm) (Ms a b c d e f++M) Q):AA L (.lp cd::k) tm M Q :=
 XQ (α:=α × β × γ × δ × ε × ζ) (λ x=>m x.1 x.2.1 x.2.2.1 x.2.2.2.1 x.2.2.2.2.1 x.2.2.2.2.2) (λ x=>P x.1 x.2.1 x.2.2.1 x.2.2.2.1 x.2.2.2.2.1 x.2.2.2.2.2) (λ x=>vs x.1 x.2.1 x.2.2.1 x.2.2.2.1 x.2.2.2.2.1 x.2.2.2.2.2) (λ x=>Ms x.1 x.2.1 x.2.2.1 x.2.2.2.1 x.2.2.2.2.1 x.2.2.2.2.2) ts τ (a,b,c,d,e,f) he hp λ⟨a,b,c,d,e,f⟩ h ih=>step a b c d e f h λ a' b' c' d' e' f' h1 h2=>ih (a',b',c',d',e',f') h1 h2
theorem AE {L:Lib} {Q:Tm->Mem->Prop} {c:BJ} {k:List It} {tm:Tm} {M:Mem} (h:fT (wz 0 tm) λ tm=>fM (oc M) λ M=>XK L Q 500 (.code c::k) tm M):AA L (.code c::k) tm M Q:=by
 rw[YK,OD]at h;exact qJ (iU h)
end Go.c9

namespace Go.c9
variable {L:Lib}
def CQ (N:Nat):AQ->Bool
 | .t n=>Nat.blt n N
 | .c _=>true
def aV (N:Nat):D6->Bool
 | .b7 x=>CQ N x
 | .w4 _ _=>true
 | .pick c a b=>CQ N c&&(CQ N a&&CQ N b)
 | .bin _ x y=>CQ N x&&CQ N y
 | .beq _ x y=>CQ N x&&CQ N y
 | .un _ x=>CQ N x
 | .conv _ x=>CQ N x
 | .box _ x=>CQ N x
 | .alloc _ _=>true
 | .build _ ps=>ps.all λ p=>CQ N p.2.2
 | .e9 _ _ ps=>ps.all (CQ N)
 | .a7 x _=>CQ N x
 | .om x _ _ _=>CQ N x
 | .a5 _ _ x i=>CQ N x&&CQ N i
 | .ld _ _ x=>CQ N x
 | .uq _ _ x=>CQ N x
 | .st _ x v=>CQ N x&&CQ N v
 | .mk _ _ _ _ l c=>CQ N l&&CQ N c
 | .fx _ x lo hi=>CQ N x&&((lo.all (CQ N))&&(hi.all (CQ N)))
 | .ext x _=>CQ N x
 | .len x=>CQ N x
 | .mm _ xs=>xs.all (CQ N)
 | .app _ _ _ x y=>CQ N x&&CQ N y
 | .call _ xs=>xs.all (CQ N)
 | .g9 _ xs=>xs.all (CQ N)
 | .tu _ x=>CQ N x
 | .gv _ x=>CQ N x
 | .bad=>true
 | .fm x=>CQ N x
 | .oi _ _ _ x y=>CQ N x&&CQ N y
 | .qo _ _ xs=>xs.all (CQ N)
 | .sd _ x=>CQ N x
 | .n0 x xs=>CQ N x&&xs.all (CQ N)
 | .m7 _ xs=>xs.all (CQ N)
 | .u6 _ _ xs=>xs.all (CQ N)
 | .cu _ _ xs=>xs.all (CQ N)
 | .sf _ _ x y=>CQ N x&&CQ N y
 | .oh _ _ x v=>CQ N x&&CQ N v
def ZO (N:Nat) (a:AI):Bool:=(a.dst.all λ d=>Nat.blt d N)&&((a.guard.all λ g=>Nat.blt g.1 N)&&aV N a.op)
def IL (N:Nat):BJ->Bool
 | .skip=>true
 | .ops l _=>l.all (ZO N)
 | .dr c ts _=>IL N c&&ts.all λ t=>Nat.blt t N
 | .scope c=>IL N c
 | .seq a b=>IL N a&&IL N b
 | .cond c a b=>CQ N c&&(IL N a&&IL N b)
 | .block _ c=>IL N c
 | .loop c=>IL N c
 | .exit _=>true
 | .ret=>true
def VM (N:Nat):It->Bool
 | .code c=>IL N c
 | .kv ts _=>ts.all λ t=>Nat.blt t N
 | .g7 _=>true
 | .lp c=>IL N c
structure Gh (N:Nat) (G T T':Tm):Prop where
 lo : ∀ j,j<N->j4 T' j=j4 T j
 hi : ∀ j,N<=j->j4 T' j=j4 G j
variable {N:Nat} {G:Tm}
theorem WD {a b:Nat}:Nat.blt a b=true↔a<b:=by simp [Nat.blt];omega
theorem Gh.ev {st:St} {T':Tm} {o:AH} (h:Gh N G st.tm T') {x:AQ} (hx:CQ N x=true):St.ev ⟨T',o⟩ x=st.ev x:=by
 cases x with
 | t n=>exact h.lo n (WD.1 hx)
 | c v=>rfl
theorem WY {f g:AQ->AV} {xs:List AQ} (h : ∀ x,CQ N x=true->f x=g x) (hx:xs.all (CQ N)=true):xs.map f=xs.map g:=by
 apply List.map_congr_left;intro x hm;exact h x (List.all_eq_true.1 hx x hm)
theorem AfX {C:Cl} {c7:List Nat} {ρ ρ':AQ->AV} {own:AH} (h : ∀ x,CQ N x=true->ρ' x=ρ x) : ∀ (op:D6),aV N op=true->g8 C c7 ρ' own op=g8 C c7 ρ own op:=by
 intro op k9;cases op;case build zero ps =>
  have:(ps.map λ p=>(p.1,p.2.1,ρ' p.2.2))=ps.map λ p=>(p.1,p.2.1,ρ p.2.2):=by
   apply List.map_congr_left;intro p hm;rw[h _ (List.all_eq_true.1 k9 p hm)]
  simp only[g8,this]
 case e9 s b9 ps =>
  have:ps.mapM (λ x=>cellsOf (ρ' x))=ps.mapM (λ x=>cellsOf (ρ x)):=by
   have ui:ps.all (CQ N)=true:=k9;clear k9;induction ps with
   | nil=>rfl
   | cons p r ih =>
    simp only[List.all_cons,Bool.and_eq_true]at ui;simp only[List.mapM_cons,h _ ui.1,ih ui.2]
  simp only[g8,this]
 case mm m xs=>simp only[g8,WY h k9]
 case call f xs=>simp only[g8,WY h k9]
 case g9 f xs=>simp only[g8,WY h k9]
 case qo p f xs =>
  have:xs.mapM (λ x=>GW (ρ' x))=xs.mapM (λ x=>GW (ρ x)):=by
   have ui:xs.all (CQ N)=true:=k9;clear k9;induction xs with
   | nil=>rfl
   | cons p r ih =>
    simp only[List.all_cons,Bool.and_eq_true]at ui;simp only[List.mapM_cons,h _ ui.1,ih ui.2]
  simp only[g8,this]
 case m7 f xs=>simp only[g8,WY h k9]
 case u6 s f xs=>simp only[g8,WY h k9]
 case cu s f xs=>simp only[g8,WY h k9]
 case n0 x xs =>
  simp only[aV,Bool.and_eq_true]at k9;simp only[g8,WY h k9.2,h _ k9.1]
 case fx b9 x lo hi =>
  simp only[aV,Bool.and_eq_true]at k9;obtain ⟨h1,h2,h3⟩:=k9;cases lo<;>cases hi<;>simp only[Option.all_some,Option.all_none]at h2 h3<;>simp only[g8,h _ h1,h _,h2,h3]
 all_goals (simp only[aV,Bool.and_eq_true]at k9;simp only[g8,h _,k9])
theorem Gh.dst {T T':Tm} (h:Gh N G T T') {d:Nat} (hd:d<N) (v:AV):Gh N G (jx T d v) (jx T' d v):=by
 constructor
 ·intro j hj
  rw[bV,bV,h.lo j hj]
 ·intro j hj
  rw[bV,h.hi j hj,if_neg (by omega)]
theorem Gh.po {T T':Tm} {o:AH} (h:Gh N G T T') {d:Option Nat} (hd:(d.all λ d=>Nat.blt d N)=true) (v:AV):((⟨T',o⟩:St).dst d v).own=((⟨T,o⟩:St).dst d v).own/\Gh N G ((⟨T,o⟩:St).dst d v).tm ((⟨T',o⟩:St).dst d v).tm:=by
 cases d with
 | none=>exact ⟨rfl,h⟩
 | some d=>exact ⟨rfl,h.dst (WD.1 hd) v⟩
theorem AkU {C:Cl} {a:AI} (ha:ZO N a=true) {T T':Tm} {o:AH} (h:Gh N G T T') {s':St} (hs:C7 C a ⟨T',o⟩=some s') : ∃ s,C7 C a ⟨T,o⟩=some s/\s'.own=s.own/\Gh N G s.tm s'.tm:=by
 simp only[ZO,Bool.and_eq_true]at ha;obtain ⟨h1,h2,h3⟩:=ha;have hg:FN ⟨T',o⟩ a.guard=FN ⟨T,o⟩ a.guard:=by
  cases hgg:a.guard with
  | none=>rfl
  | some g =>
   rw[hgg]at h2;simp only[FN,h.lo _ (WD.1 h2)]
 have he:=AfX (C:=C) (c7:=a.c7) (own:=o) (ρ:=St.ev ⟨T,o⟩) (ρ':=St.ev ⟨T',o⟩) (λ x hx=>Gh.ev (st:=⟨T,o⟩) h hx) a.op h3;unfold C7 at hs ⊢;rw[hg,he]at hs;cases Dz:FN ⟨T,o⟩ a.guard with
 | none=>rw[Dz]at hs;cases hs
 | some b =>
  rw[Dz]at hs;cases b with
  | false =>
   simp only[Option.some.injEq]at hs ⊢;subst hs;exact ⟨_,rfl,h.po h1 _⟩
  | true =>
   simp only at hs ⊢;cases Vj:g8 C a.c7 (St.ev ⟨T,o⟩) o a.op with
   | none=>rw[Vj]at hs;cases hs
   | some e =>
    rw[Vj]at hs;simp only[Option.map_some,Option.some.injEq]at hs ⊢;subst hs;refine ⟨_,rfl,?_⟩;cases e with
    | val v=>exact h.po h1 v
    | new s b v=>exact ⟨rfl,(h.po (o:=o) h1 _).2⟩
    | zt s b v=>exact ⟨rfl,(h.po (o:=o) h1 _).2⟩
    | eb v o'=>exact ⟨rfl,(h.po (o:=o) h1 _).2⟩
    | q5 s x=>exact ⟨rfl,(h.po (o:=o) h1 _).2⟩
    | yd s x v=>exact ⟨rfl,(h.po (o:=o) h1 _).2⟩
theorem Ti {C:Cl} : ∀ {l:List AI},l.all (ZO N)=true -> ∀ {T T':Tm} {o:AH},Gh N G T T' -> ∀ {s':St},DD C l ⟨T',o⟩=some s' -> ∃ s,DD C l ⟨T,o⟩=some s/\s'.own=s.own/\Gh N G s.tm s'.tm
 | [],_,T,T',o,h,s',hs=>by
  simp only[DD,Option.some.injEq]at hs;subst hs;exact ⟨_,rfl,rfl,h⟩
 | a::l,ha,T,T',o,h,s',hs=>by
  simp only[List.all_cons,Bool.and_eq_true]at ha;simp only[DD]at hs;cases h1:C7 C a ⟨T',o⟩ with
  | none=>rw[h1]at hs;cases hs
  | some s1 =>
   rw[h1]at hs;obtain ⟨s2,e1,e2,e3⟩:=AkU ha.1 h h1;obtain ⟨T1,o1⟩:=s1;obtain ⟨T2,o2⟩:=s2;simp only at e2 e3;subst e2;obtain ⟨s3,f1,f2,f3⟩:=Ti ha.2 e3 hs;exact ⟨s3,by simp only[DD,e1,f1],f2,f3⟩
theorem aC {id:Nat} : ∀ {k k':List It},k.all (VM N)=true->DY id k=some k'->k'.all (VM N)=true
 | [],_,_,h=>by simp [DY]at h
 | it::k,k',hk,h=>by
  simp only[List.all_cons,Bool.and_eq_true]at hk;cases it with
  | g7 i =>
   simp only[DY]at h;split at h
   ·cases h;exact hk.2
   ·exact aC hk.2 h
  | code c=>simp only[DY]at h;exact aC hk.2 h
  | kv a b=>simp only[DY]at h;exact aC hk.2 h
  | lp c=>simp only[DY]at h;exact aC hk.2 h
theorem JC {C:Cl} : ∀ (n:Nat) {k:List It},k.all (VM N)=true -> ∀ {T T':Tm} {o:AH},Gh N G T T' -> ∀ {s':St},run C n k ⟨T',o⟩=some s' -> ∃ s,run C n k ⟨T,o⟩=some s/\s'.own=s.own/\Gh N G s.tm s'.tm
 | 0,k,_,T,T',o,_,s',hs=>by simp [run]at hs
 | n+1,[],_,T,T',o,h,s',hs=>by
  simp only[run,Option.some.injEq]at hs ⊢;subst hs;exact ⟨_,rfl,rfl,h⟩
 | n+1,.g7 _::k,hk,T,T',o,h,s',hs=>by
  simp only[List.all_cons,Bool.and_eq_true]at hk;simp only[run]at hs ⊢;exact JC n hk.2 h hs
 | n+1,.kv ts ss::k,hk,T,T',o,h,s',hs=>by
  simp only[List.all_cons,Bool.and_eq_true]at hk;simp only[run]at hs ⊢;refine JC n hk.2 ⟨λ j hj => ?_,λ j hj => ?_⟩ hs
  ·rw[Y8,Y8,h.lo j hj]
  ·rw[Y8,h.hi j hj,if_neg]
   intro hc;have:=List.all_eq_true.1 hk.1 j (by simpa using hc)
   have:=WD.1 this
   omega
 | n+1,.lp c::k,hk,T,T',o,h,s',hs=>by
  simp only[run]at hs ⊢;have jc:=hk;simp only[List.all_cons,Bool.and_eq_true]at hk;exact JC n (by simp only[List.all_cons,Bool.and_eq_true];exact ⟨hk.1,hk.1,hk.2⟩) h hs
 | n+1,.code c::k,hk,T,T',o,h,s',hs=>by
  simp only[List.all_cons,Bool.and_eq_true]at hk;obtain ⟨hc,hk⟩:=hk;cases c with
  | skip=>simp only[run]at hs ⊢;exact JC n hk h hs
  | ops l d =>
   simp only[run]at hs ⊢;cases h1:DD C l ⟨T',o⟩ with
   | none=>rw[h1]at hs;cases hs
   | some s1 =>
    rw[h1]at hs;obtain ⟨s2,e1,e2,e3⟩:=Ti (show l.all (ZO N)=true from hc) h h1;obtain ⟨T1,o1⟩:=s1;obtain ⟨T2,o2⟩:=s2;simp only at e2 e3;subst e2;rw[e1];exact JC n hk e3 hs
  | dr c ts ss =>
   simp only[run]at hs ⊢;simp only[VM,IL,Bool.and_eq_true]at hc;exact JC n (by simp only[List.all_cons,Bool.and_eq_true];exact ⟨hc.1,hc.2,hk⟩) h hs
  | scope c =>
   simp only[run]at hs ⊢;exact JC n (by simp only[List.all_cons,Bool.and_eq_true];exact ⟨hc,hk⟩) h hs
  | seq a b =>
   simp only[run]at hs ⊢;simp only[VM,IL,Bool.and_eq_true]at hc;exact JC n (by simp only[List.all_cons,Bool.and_eq_true];exact ⟨hc.1,hc.2,hk⟩) h hs
  | cond x a b =>
   simp only[VM,IL,Bool.and_eq_true]at hc;simp only[run,Gh.ev (st:=⟨T,o⟩) h hc.1]at hs ⊢;cases hx:St.ev ⟨T,o⟩ x<;>rw[hx]at hs<;>try (simp at hs;done)
   rename_i q;cases q
   ·exact JC n (by simp only[List.all_cons,Bool.and_eq_true];exact ⟨hc.2.2,hk⟩) h hs
   ·exact JC n (by simp only[List.all_cons,Bool.and_eq_true];exact ⟨hc.2.1,hk⟩) h hs
  | block id c =>
   simp only[run]at hs ⊢;exact JC n (by simp only[List.all_cons,Bool.and_eq_true];exact ⟨hc,rfl,hk⟩) h hs
  | loop c =>
   simp only[run]at hs ⊢;exact JC n (by simp only[List.all_cons,Bool.and_eq_true];exact ⟨hc,hc,hk⟩) h hs
  | exit id =>
   simp only[run]at hs ⊢;cases he:DY id k with
   | none=>rw[he]at hs;cases hs
   | some k' =>
    rw[he]at hs;exact JC n (aC hk he) h hs
  | ret =>
   simp only[run,Option.some.injEq]at hs ⊢;subst hs;exact ⟨_,rfl,rfl,h⟩
def GP (N:Nat):Tm->Tm
 | []=>[]
 | (i,v)::r=>(N+i,v)::GP N r
def gh (N:Nat):Tm->Tm
 | []=>[]
 | (i,v)::r=>bif Nat.ble N i then (Nat.sub i N,v)::gh N r else gh N r
theorem pZ (N j:Nat) : ∀ T:Tm,j4 (GP N T) (N+j)=j4 T j
 | []=>rfl
 | (i,v)::r=>by
  have ih:=pZ N j r;simp only[GP,j4,ih];by_cases h:j=i
  ·simp [h]
  ·rw[if_neg h,if_neg (by omega)]
theorem qA {N j:Nat} (hj:j<N) : ∀ T:Tm,j4 (GP N T) j = .any
 | []=>rfl
 | (i,v)::r=>by
  simp only[GP,j4,qA hj r];rw[if_neg (by omega)]
theorem pX (N j:Nat) : ∀ T:Tm,j4 (gh N T) j=j4 T (N+j)
 | []=>rfl
 | (i,v)::r=>by
  have ih:=pX N j r;simp only[gh];cases h:Nat.ble N i
  ·have h1 : ¬ N<=i:=λ e=>by rw[Nat.ble_eq_true_of_le e]at h;cases h
   simp only[cond,j4,ih];rw[if_neg (by omega)]
  ·have h1:=Nat.le_of_ble_eq_true h
   simp only[cond,j4,ih];by_cases h2:j=i-N
   ·rw[if_pos (show j=Nat.sub i N from h2),if_pos (by omega)]
   ·rw[if_neg (show ¬ j=Nat.sub i N from h2),if_neg (by omega)]
def PN (f:AV->AV):Tm->Tm
 | []=>[]
 | (i,v)::r=>(i,f v)::PN f r
theorem LC {f:AV->AV} (hf:f .any = .any) (j:Nat) : ∀ T:Tm,j4 (PN f T) j=f (j4 T j)
 | []=>hf.symm
 | (i,v)::r=>by
  simp only[PN,j4,LC hf j r];by_cases h:j=i<;>simp [h]
theorem mB (f:AV->AV) : ∀ (i:Nat) (vs:List AV),CZ i (vs.map f)=PN f (CZ i vs)
 | _,[]=>rfl
 | i,v::r=>by simp only[List.map_cons,CZ,PN,mB f (i+1) r]
theorem bT (j:Nat) (b:Tm) : ∀ a:Tm,((a.any λ p=>p.1 == j)=true/\j4 (a++b) j=j4 a j)\/((a.any λ p=>p.1 == j)=false/\j4 (a++b) j=j4 b j)
 | []=>Or.inr ⟨rfl,rfl⟩
 | (i,v)::r=>by
  by_cases h:j=i
  ·subst h
   exact Or.inl (by simp [j4])
  ·have h' : ¬ i=j:=λ e=>h e.symm
   rcases bT j b r with ⟨h1,h2⟩|⟨h1,h2⟩
   ·exact Or.inl ⟨by rw[List.any_cons,h1,Bool.or_true],by simp only[List.cons_append,j4,if_neg h,h2]⟩
   ·exact Or.inr ⟨by rw[List.any_cons,h1,Bool.or_false];simpa using h',by simp only[List.cons_append,j4,if_neg h,h2]⟩
theorem mA (j:Nat) : ∀ (i:Nat) (vs:List AV),((CZ i vs).any λ p=>p.1 == j)=true->j<i+vs.length
 | _,[],h=>by simp [CZ]at h
 | i,v::r,h=>by
  simp only[CZ,List.any_cons,Bool.or_eq_true,beq_iff_eq]at h;rcases h with h|h
  ·simp;omega
  ·have:=mA j (i+1) r h
   simp;omega
theorem pY (j:Nat) : ∀ (i:Nat) (vs:List AV),((CZ i vs).any λ p=>p.1 == j)=false->j4 (CZ i vs) j = .any
 | _,[],_=>rfl
 | i,v::r,h=>by
  simp only[CZ,List.any_cons,Bool.or_eq_false_iff,beq_eq_false_iff_ne]at h;simp only[CZ,j4];rw[if_neg λ e=>h.1 e.symm,pY j (i+1) r h.2]
theorem OR (σ:FR):BI σ .any = .any:=rfl
def VT (tm:Tm):List J0->Option (List AV)
 | []=>some []
 | .tmp t::r=>match JB (tg tm t),VT tm r with
  | some v,some vs=>some (v::vs)
  | _,_=>none
 | .cell _ _ _::_=>none
def bE (N:Nat):List J0->Bool
 | []=>true
 | .tmp t::r=>Nat.blt t N&&bE N r
 | .cell _ _ _::_=>false
def rE (N:Nat) (fn:AFn) (tm:Tm) (K:AV->Mem->Prop) (bf:Tm) (M':Mem):Prop:=gh N bf=tm /\ ∃ rs,VT bf fn.res=some rs/\K (IE rs) M'
theorem Aj9 {σ:FR} {v u:AV} (h:JB v=some u):u=v/\BI σ v=BV σ v/\JB (BI σ v)=some (BI σ v):=by
 cases v<;>simp [JB]at h<;>subst h<;>exact ⟨rfl,rfl,rfl⟩
theorem oC {σ:FR} {bf:Tm} {M:Mem} {s s':St} (hr:RX σ bf M s') (oy : ∀ j,j<N->j4 s'.tm j=j4 s.tm j) : ∀ {res:List J0} {rs:List AV},bE N res=true->VT bf res=some rs->res.mapM (FB s)=some (rs.map (BV σ)) /\ ∀ v∈rs,BI σ v=BV σ v
 | [],rs,_,h=>by
  simp only[VT,Option.some.injEq]at h;subst h;exact ⟨rfl,by simp⟩
 | .cell _ _ _::_,_,_,h=>by simp [VT]at h
 | .tmp t::r,rs,hl,h=>by
  simp only[bE,Bool.and_eq_true]at hl;simp only[VT]at h;cases h1:JB (tg bf t) with
  | none=>rw[h1]at h;simp at h
  | some v =>
   cases h2:VT bf r with
   | none=>rw[h1,h2]at h;simp at h
   | some vs =>
    rw[h1,h2]at h;simp only[Option.some.injEq]at h;subst h;obtain ⟨i1,i2⟩:=oC hr oy hl.2 h2;obtain ⟨rfl,j2,j3⟩:=Aj9 (σ:=σ) h1;have:j4 s.tm t=BI σ (tg bf t):=by
     rcases hr.tm t with e|e
     ·rw[e]at h1;cases h1
     ·rw[<-oy t (WD.1 hl.1),e]
    refine ⟨?_,?_⟩
    ·rw[j2]at j3 this
     simp only[List.mapM_cons,FB,this,j3,i1,List.map_cons];rfl
    ·intro v hv
     simp only[List.mem_cons]at hv;rcases hv with rfl|hv
     ·exact j2
     ·exact i2 v hv
theorem Px {σ:FR} {rs:List AV} (h : ∀ v∈rs,BI σ v=BV σ v):IE (rs.map (BV σ))=BI σ (IE rs):=by
 match rs,h with
 | [],_=>rfl
 | [v],h=>exact (h v (by simp)).symm
 | _::_::_,_=>rfl
theorem GI {f:Nat} {fn:AFn} {vs:List AV} {tm:Tm} {M:Mem} {K:AV->Mem->Prop} (N:Nat) (hL:L f=some fn) (hp:Nat.beq vs.length fn.ay=true) (hN:(Nat.ble fn.ay N&&(IL N fn.body&&bE N fn.res))=true)
  (h:AA L [.code fn.body] (CZ 0 vs++GP N tm) M (rE N fn tm K)):A7 L f vs tm M K:=by
 intro σ own hs;simp only[Bool.and_eq_true]at hN;obtain ⟨n1,n2,n3⟩:=hN;have n1:=Nat.le_of_ble_eq_true n1;have hp:vs.length=fn.ay:=Nat.eq_of_beq_eq_true hp;have Nq:RX σ (CZ 0 vs++GP N tm) M ⟨PN (BI σ) (CZ 0 vs++GP N tm),own⟩:=⟨λ j=>Or.inr (by rw[LB];exact LC (OR σ) j _),hs⟩;obtain ⟨n,c,s',hr,σ',bf,M',hR,hg,rs,Nn,hk⟩:=h σ _ Nq;have Lz:Gh N (PN (BI σ) (GP N tm)) (CZ 0 (vs.map (BI σ))) (PN (BI σ) (CZ 0 vs++GP N tm)):=by
  constructor
  ·intro j hj
   rw[mB,LC (OR σ),LC (OR σ)];rcases bT j (GP N tm) (CZ 0 vs) with ⟨_,e⟩|⟨hn,e⟩
   ·rw[e]
   ·rw[e,qA hj,pY j 0 vs hn]
  ·intro j hj
   rw[LC (OR σ),LC (OR σ)];rcases bT j (GP N tm) (CZ 0 vs) with ⟨hn,e⟩|⟨_,e⟩
   ·have:=mA j 0 vs hn
    omega
   ·rw[e]
 obtain ⟨s,r1,r2,r3⟩:=JC n (by simp [VM,n2]) Lz hr;obtain ⟨i1,i2⟩:=oC (s:=s) hR r3.lo n3 Nn;refine ⟨IE rs,s.own,σ',M',GS.intro hL (by simpa using hp) ⟨n,c,s,r1,?_,rfl⟩,?_,?_,hk⟩
 ·rw[i1,Option.map_some,Px i2]
 ·rw[<-r2];exact hR.sat
 ·intro j
  have e1:tg tm j=tg bf (N+j):=by rw[LB,LB,<-hg,pX]
  rcases hR.tm (N+j) with e|e
  ·rw[e1,e];rfl
  ·rw[e1,<-e,r3.hi (N+j) (by omega),LC (OR σ),pZ,<-LB,e1]
theorem V9 {α:Type} {enc:α->List AV} {l:List α} {i:Nat} {vs:List AV} {K:List (List AV)->Prop} (n:Nat) (e:α) (hn:i=n) (he:vs=enc e) (hz : ∀ x,(enc x).length=vs.length) (hi:n<l.length) (h:K ((l.set n e).map enc)):A5 (l.map enc) i 0 vs K:=by
 subst hn;exact Zt e he hz hi h
theorem HD {x:Int} {len:Nat} {K:Nat->Nat->Prop} (h:Nat) (hx:x=h) (hl:h<=len) (hk:K 0 h):BR none (some x) len K:=⟨0,h,rfl,⟨by omega,by omega,by omega⟩,by omega,hk⟩
theorem Acw {x:Int} {len:Nat} {K:Nat->Nat->Prop} (a:Nat) (hx:x=a) (hl:a<=len) (hk:K a len):BR (some x) none len K:=⟨a,len,⟨by omega,by omega⟩,rfl,by omega,hk⟩
end Go.c9

namespace Go.c9
abbrev BB:Nat:=4294967296
@[irreducible] def EQ (a b : Nat) : Nat := (a + 18446744073709551616 - b) % 18446744073709551616
theorem XH (a b:Nat):EQ a b=(a+18446744073709551616-b)%18446744073709551616:=by unfold EQ;rfl
def val:List Nat->Nat
 | []=>0
 | d::l=>d+4294967296*val l
def A2 (l:List Nat):Prop := ∀ d∈l,d<4294967296
def dg (n:Nat):List Nat:=if h:n=0 then [] else n%4294967296::dg (n/4294967296)
termination_by n
decreasing_by omega
theorem E4:dg 0=[]:=by rw[dg];simp
theorem JR {n:Nat} (h:n≠0):dg n=n%4294967296::dg (n/4294967296):=by rw[dg];simp [h]
theorem JN:val []=0:=rfl
theorem UZ (d:Nat) (l:List Nat):val (d::l)=d+4294967296*val l:=rfl
theorem B3 (n:Nat):val (dg n)=n:=by
 induction n using Nat.strongRecOn with
 | ind n ih =>
  by_cases h:n=0
  ·subst h;rw[E4];rfl
  ·rw[JR h,UZ,ih _ (by omega)]
   omega
theorem DX (n:Nat):A2 (dg n):=by
 induction n using Nat.strongRecOn with
 | ind n ih =>
  by_cases h:n=0
  ·subst h;rw[E4];intro d hd;cases hd
  ·rw[JR h]
   intro d hd;rcases List.mem_cons.1 hd with rfl|hd
   ·omega
   ·exact ih _ (by omega) d hd
theorem A2.tail {d:Nat} {l:List Nat} (h:A2 (d::l)):A2 l:=λ x hx=>h x (List.mem_cons_of_mem _ hx)
theorem A2.head {d:Nat} {l:List Nat} (h:A2 (d::l)):d<4294967296:=h d List.mem_cons_self
theorem A2.at {l:List Nat} (h:A2 l) {i d:Nat} (hd:l[i]? = some d):d<4294967296:=h d (zM hd)
theorem A2.take {l:List Nat} (h:A2 l) (n:Nat):A2 (l.take n):=λ x hx=>h x (List.mem_of_mem_take hx)
theorem A2.drop {l:List Nat} (h:A2 l) (n:Nat):A2 (l.drop n):=λ x hx=>h x (List.mem_of_mem_drop hx)
theorem X8:A2 []:=λ_ h=>by cases h
theorem A2.append {a b:List Nat} (h:A2 a) (h':A2 b):A2 (a++b):=λ x hx=>(List.mem_append.1 hx).elim (h x) (h' x)
theorem HR {d:Nat} (h:d<4294967296):A2 [d]:=λ x hx=>by simp at hx;omega
theorem A2.set {l:List Nat} (h:A2 l) (i:Nat) {d:Nat} (hd:d<4294967296):A2 (l.set i d):=λ x hx=>by
 rcases List.mem_or_eq_of_mem_set hx with h1|h1
 ·exact h x h1
 ·omega
theorem JS (n:Nat):A2 (List.replicate n 0):=λ x hx=>by rw[(List.mem_replicate.1 hx).2];omega
theorem ZA (a b:List Nat):val (a++b)=val a+4294967296^a.length*val b:=by
 induction a with
 | nil=>simp [val]
 | cons d l ih=>rw[List.cons_append,UZ,UZ,ih,List.length_cons,Nat.pow_succ];grind
theorem SR (l:List Nat) (v:Nat):val (l++[v])=val l+4294967296^l.length*v:=by
 rw[ZA];simp [val]
theorem E6 {l:List Nat} (h:A2 l):val l<4294967296^l.length:=by
 induction l with
 | nil=>simp [val]
 | cons d l ih =>
  have h1:=ih h.tail;have h2:=h.head;rw[UZ,List.length_cons,Nat.pow_succ];omega
theorem EB {l:List Nat} {i v:Nat} (h:l[i]? = some v):val (l.take (i+1))=val (l.take i)+4294967296^i*v:=by
 have hi:=(zS h).1;rw[List.take_add_one,h,Option.toList_some,SR,List.length_take,Nat.min_eq_left (by omega)]
theorem LZ (l:List Nat) (i:Nat) (h:i<=l.length):val l=val (l.take i)+4294967296^i*val (l.drop i):=by
 have:=ZA (l.take i) (l.drop i)
 rw[List.take_append_drop,List.length_take,Nat.min_eq_left h]at this;exact this
theorem iI (n:Nat):val (List.replicate n 0)=0:=by
 induction n with
 | zero=>rfl
 | succ n ih=>rw[List.replicate_succ,UZ,ih]
theorem AeQ {l:List Nat} (h:A2 l) (ht:l=[] \/ ∃ d,l[l.length-1]? = some d/\d≠0):dg (val l)=l:=by
 induction l with
 | nil=>exact E4
 | cons d l ih =>
  have h1:=h.head;by_cases hl:l=[]
  ·subst hl
   rcases ht with ht|⟨x,hx,mn⟩
   ·cases ht
   ·simp at hx
    subst hx;rw[UZ,JN,JR (by omega),show (d+4294967296*0)/4294967296=0 by omega,E4,show (d+4294967296*0)%4294967296=d by omega]
  ·have oz : ∃ x,l[l.length-1]? = some x/\x≠0:=by
    rcases ht with ht|⟨x,hx,mn⟩
    ·cases ht
    ·refine ⟨x,?_,mn⟩
     have:l.length≠0:=λ e=>hl (List.eq_nil_of_length_eq_zero e)
     rw[List.length_cons,show l.length+1-1=(l.length-1)+1 by omega,List.getElem?_cons_succ]at hx;exact hx
   have Ow:=ih h.tail (Or.inr oz);have vz:val l≠0:=by
    intro e;rw[e,E4]at Ow;exact hl Ow.symm
   rw[UZ,JR (by omega),show (d+4294967296*val l)/4294967296=val l by omega,Ow,show (d+4294967296*val l)%4294967296=d by omega]
theorem GM {l:List Nat} (h:A2 l) {n:Nat} (hn:n<=l.length) (hz : ∀ i,n<=i->i<l.length->l[i]? = some 0) (ht:n=0 \/ ∃ d,l[n-1]? = some d/\d≠0):l.take n=dg (val l):=by
 have hv:val l=val (l.take n):=by
  have h0:l.drop n=List.replicate (l.length-n) 0:=by
   apply List.ext_getElem?;intro i;rw[List.getElem?_drop,List.getElem?_replicate];by_cases hi:n+i<l.length
   ·rw[hz (n+i) (by omega) hi,if_pos (by omega)]
   ·rw[List.getElem?_eq_none (by omega),if_neg (by omega)]
  rw[LZ l n hn,h0,iI];omega
 rw[hv];refine (AeQ (h.take n) ?_).symm;rcases ht with rfl|⟨d,hd,yu⟩
 ·exact Or.inl (by simp)
 ·have l9:=(zS hd).1
  by_cases ue:n=0
  ·subst ue;exact Or.inl (by simp)
  ·refine Or.inr ⟨d,?_,yu⟩
   rw[List.length_take,Nat.min_eq_left hn,List.getElem?_take,if_pos (by omega)];exact hd
theorem S9 {n k:Nat}:(dg n).length<=k↔n<4294967296^k:=by
 induction k generalizing n with
 | zero =>
  by_cases h:n=0
  ·subst h;simp [E4]
  ·rw[JR h];simp;omega
 | succ k ih =>
  by_cases h:n=0
  ·subst h;simp [E4];exact Nat.pos_of_ne_zero (by simp)
  ·rw[JR h,List.length_cons,Nat.succ_le_succ_iff,ih,Nat.pow_succ]
   rw[Nat.div_lt_iff_lt_mul (by omega)]
theorem EX {l:List Nat} (h:A2 l):(dg (val l)).length<=l.length:=S9.2 (E6 h)
theorem kD {n:Nat} (h:n≠0) : ∃ d,(dg n)[(dg n).length-1]? = some d/\d≠0:=by
 induction n using Nat.strongRecOn with
 | ind n ih =>
  rw[JR h];by_cases h2:n/4294967296=0
  ·rw[h2,E4]
   exact ⟨n%4294967296,by simp,by omega⟩
  ·obtain ⟨d,hd,yu⟩:=ih _ (by omega) h2
   refine ⟨d,?_,yu⟩;have hl:(dg (n/4294967296)).length≠0:=λ e=>by rw[List.eq_nil_of_length_eq_zero e]at hd;simp at hd
   rw[List.length_cons,show (dg (n/4294967296)).length+1-1=(dg (n/4294967296)).length-1+1 by omega,List.getElem?_cons_succ];exact hd
theorem kA {n:Nat}:dg n=[]↔n=0:=by
 constructor
 ·intro h
  by_cases h0:n=0
  ·exact h0
  ·rw[JR h0]at h;cases h
 ·rintro rfl;exact E4
theorem Z2 {n:Nat} (h:n≠0):1<=(dg n).length:=by rw[JR h];simp
theorem Akx {o:List Nat} {i v:Nat} (h:i<o.length):(o.set i v).take (i+1)=o.take i++[v]:=by
 rw[List.take_add_one,List.getElem?_set_self h,List.take_set_of_le (Nat.le_refl i)];rfl
theorem F6 {o:List Nat} {i v:Nat} (h:i<o.length):val ((o.set i v).take (i+1))=val (o.take i)+4294967296^i*v:=by
 rw[Akx h,SR,List.length_take,Nat.min_eq_left (by omega)]
theorem T5 (V p t:Nat):V+p*(t%4294967296)+p*4294967296*(t/4294967296)=V+p*t:=by
 have h:=Nat.mod_add_div t 4294967296;have:p*(t%4294967296)+p*4294967296*(t/4294967296)=p*t:=by
  rw[Nat.mul_assoc,<-Nat.mul_add,h]
 omega
theorem DE {l:List Nat} {n:Nat} (h:l.length<=n):val (l.take n)=val l:=by rw[List.take_of_length_le h]
theorem Ro (i:Nat):1<=4294967296^i:=Nat.pos_of_ne_zero (by simp)
theorem HB {l:List Nat} {i d:Nat} (h:l[i]? = some d):val (l.drop i)=d+4294967296*val (l.drop (i+1)):=by
 obtain ⟨hi,rfl⟩:=zS h;rw[List.drop_eq_getElem_cons hi,UZ]
theorem iE {a b:List Nat} (ha:A2 a) (hb:A2 b) (hl:a.length=b.length) {i:Nat} {x y:Nat} (hx:a[i]? = some x) (hy:b[i]? = some y) (he:a.drop (i+1)=b.drop (i+1)) (h:x<y):val a<val b:=by
 have hia:=(zS hx).1;have Vs:=(zS hy).1;rw[LZ a i (by omega),LZ b i (by omega),HB hx,HB hy,he];have h1:=E6 (ha.take i);rw[List.length_take,Nat.min_eq_left (by omega)]at h1;generalize val (b.drop (i+1))=r;generalize 4294967296^i=p at *;have:p*(x+4294967296*r)+p<=p*(y+4294967296*r):=by
  rw[<-Nat.mul_succ];exact Nat.mul_le_mul_left p (by omega)
 omega
theorem iF {o:List Nat} {k v old:Nat} (h:o[k]? = some old):val (o.set k v)+4294967296^k*old=val o+4294967296^k*v:=by
 have hk:=(zS h).1;have h1:val (o.set k v)=val (o.take k)+4294967296^k*(v+4294967296*val (o.drop (k+1))):=by
  rw[LZ (o.set k v) k (by simp;omega),List.take_set_of_le (Nat.le_refl k),HB (l:=o.set k v) (d:=v) (by rw[List.getElem?_set_self hk]),List.drop_set_of_lt (by omega)]
 have h2:val o=val (o.take k)+4294967296^k*(old+4294967296*val (o.drop (k+1))):=by
  rw[LZ o k (by omega),HB h]
 rw[h1,h2,Nat.mul_add,Nat.mul_add];omega
theorem bR {l:List Nat} (h:A2 l):l.take (dg (val l)).length=dg (val l):=by
 induction l with
 | nil=>rw[JN,E4];rfl
 | cons d l ih =>
  have h1:=h.head;by_cases h0:val (d::l)=0
  ·rw[h0,E4];rfl
  ·rw[JR h0,UZ,show (d+4294967296*val l)/4294967296=val l by omega,show (d+4294967296*val l)%4294967296=d by omega,List.length_cons,List.take_succ_cons,ih h.tail]
theorem ZB {a b:Nat} (h:(dg a).length<(dg b).length):a<b:=by
 have h1:a<4294967296^(dg a).length:=S9.1 (Nat.le_refl _);have h2 : ¬ b<4294967296^((dg b).length-1):=λ h3=>by have:=S9.2 h3;omega
 have h3:4294967296^(dg a).length<=4294967296^((dg b).length-1):=Nat.pow_le_pow_right (by omega) (by omega);omega
end Go.c9

namespace Go.c9
section
variable {K:AV->Prop} {a b:Nat} {k':IntKind}
theorem wrap_u32 (n:Nat):IntKind.u32.wrap (n:Int)=((n%4294967296:Nat):Int):=by rw[IntKind.wrap_u32];omega
theorem Alx (n:Nat):IntKind.u64.wrap (n:Int)=((n%18446744073709551616:Nat):Int):=by
 simp [IntKind.wrap,IntKind.bits,IntKind.signed]
theorem GC (h:a+b<=18446744073709551615) (hk:K (.int .u64 ((a+b:Nat):Int))):AD .add .u64 (a:Int) .u64 (b:Int) K :=
 ⟨_,by simp only[DM,if_true];rw[IntWalk.u64_in _ (by omega)],by simpa using hk⟩
theorem JP (h:b<=a) (h2:a<=18446744073709551615) (hk:K (.int .u64 ((a-b:Nat):Int))):AD .sub .u64 (a:Int) .u64 (b:Int) K :=
 ⟨_,by simp only[DM,if_true];rw[IntWalk.u64_in _ (by omega)],by rw[show (a:Int)-b=((a-b:Nat):Int) by omega];exact hk⟩
theorem cL (h:b<=18446744073709551616) (hk:K (.int .u64 ((EQ a b:Nat):Int))):AD .sub .u64 (a:Int) .u64 (b:Int) K :=
 cG (v := .int .u64 (IntKind.u64.wrap ((a:Int)-b))) (by simp only[DM,if_true]) (by
  have e:IntKind.u64.wrap ((a:Int)-b)=((EQ a b:Nat):Int):=by
   rw[XH];simp only[IntKind.wrap,IntKind.bits,IntKind.signed];simp;omega
  rw[e];exact hk)
theorem TU (h:a*b<=18446744073709551615) (hk:K (.int .u64 ((a*b:Nat):Int))):AD .mul .u64 (a:Int) .u64 (b:Int) K :=
 ⟨_,by simp only[DM,if_true];rw[<-Int.natCast_mul,IntWalk.u64_in _ (by omega)],hk⟩
theorem cJ (h:0<b) (h2:a<=18446744073709551615) (hk:K (.int .u64 ((a/b:Nat):Int))):AD .quo .u64 (a:Int) .u64 (b:Int) K:=by
 refine ⟨_,by simp only[DM];rw[if_pos ⟨trivial,by omega⟩],?_⟩;rw[IntWalk.u64_quo _ _ ⟨by omega,by omega,by omega⟩,<-Int.natCast_ediv];exact hk
theorem ZI (h:0<b) (hk:K (.int .u64 ((a%b:Nat):Int))):AD .rem .u64 (a:Int) .u64 (b:Int) K:=by
 refine ⟨_,by simp only[DM];rw[if_pos ⟨trivial,by omega⟩],?_⟩;rw[IntWalk.rem_in _ _ (by omega),<-Int.natCast_emod];exact hk
theorem AkA {k:IntKind} {n:Nat} (hn:n<=k.bits):DM .shl k (a:Int) k' (n:Int)=some (.int k (k.wrap ((a*2^n:Nat):Int))):=by
 simp only[DM];rw[if_neg (by omega),Int.toNat_natCast,Nat.min_eq_left hn];simp
theorem AkC {k:IntKind} {n:Nat} (hn:n<=k.bits):DM .shr k (a:Int) k' (n:Int)=some (.int k ((a/2^n:Nat):Int)):=by
 simp only[DM];rw[if_neg (by omega),Int.toNat_natCast,Nat.min_eq_left hn,Int.fdiv_eq_ediv_of_nonneg _ (Int.le_of_lt (Int.pow_pos (by omega)))];simp
theorem iP {k:IntKind} {n:Nat} (hn:n<=k.bits) (hk:K (.int k (k.wrap ((a*2^n:Nat):Int)))):AD .shl k (a:Int) k' (n:Int) K:=⟨_,AkA hn,hk⟩
theorem TW {k:IntKind} {n:Nat} (hn:n<=k.bits) (hk:K (.int k ((a/2^n:Nat):Int))):AD .shr k (a:Int) k' (n:Int) K:=⟨_,AkC hn,hk⟩
theorem SX (h:a<=4294967295) (hk:K (.int .u64 ((a*4294967296:Nat):Int))):AD .shl .u64 (a:Int) k' 32 K:=by
 refine iP (n:=32) (by decide) ?_;rw[Alx,show a*2^32%18446744073709551616=a*4294967296 by omega];exact hk
theorem FL (hk:K (.int .u64 ((a/4294967296:Nat):Int))):AD .shr .u64 (a:Int) k' 32 K:=TW (n:=32) (by decide) hk
theorem cK (hk:K (.int .u64 ((a/9223372036854775808:Nat):Int))):AD .shr .u64 (a:Int) k' 63 K:=TW (n:=63) (by decide) hk
theorem Za (hk:K (.int .u64 ((a/4:Nat):Int))):AD .shr .u64 (a:Int) k' 2 K:=TW (n:=2) (by decide) hk
theorem Yz (hk:K (.int .u32 ((a/65536:Nat):Int))):AD .shr .u32 (a:Int) k' 16 K:=TW (n:=16) (by decide) hk
theorem Zb (hk:K (.int .u32 ((a/256:Nat):Int))):AD .shr .u32 (a:Int) k' 8 K:=TW (n:=8) (by decide) hk
theorem Yy (hk:K (.int .u32 ((a/2:Nat):Int))):AD .shr .u32 (a:Int) k' 1 K:=TW (n:=1) (by decide) hk
theorem nH (w n:Nat):(BitVec.ofInt w (n:Int)).toNat=n%2^w:=by rw[BitVec.toNat_ofInt];omega
theorem AjE {n x y:Nat} (hx:x%2^n=0) (hy:y<2^n):x ||| y=x+y:=by
 have e:x=2^n*(x/2^n):=by have:=Nat.mod_add_div x (2^n);omega
 rw[e,<-Nat.two_pow_add_eq_or_of_lt hy]
theorem iO {k:IntKind} (n:Nat) (hx:a%2^n=0) (hy:b<2^n) (h:a+b<2^k.bits) (hw:k.wrap ((a+b:Nat):Int)=((a+b:Nat):Int)) (hk:K (.int k ((a+b:Nat):Int))):AD .or k (a:Int) k (b:Int) K:=by
 refine cG (v := .int k (k.wrap (BitVec.ofInt k.bits (a:Int) ||| BitVec.ofInt k.bits (b:Int)).toNat)) (by simp only[DM,if_true]) ?_;rw[BitVec.toNat_or,nH,nH,Nat.mod_eq_of_lt (by omega),Nat.mod_eq_of_lt (by omega),AjE hx hy,hw];exact hk
theorem TV (h:a%4294967296=0/\b<4294967296/\a+b<=18446744073709551615) (hk:K (.int .u64 ((a+b:Nat):Int))):AD .or .u64 (a:Int) .u64 (b:Int) K :=
 iO 32 h.1 h.2.1 (show a+b<18446744073709551616 by omega) (IntWalk.u64_in _ (by omega)) hk
theorem qZ (h:a<=18446744073709551615) (hk:K (.int .u64 ((a%4294967296:Nat):Int))):AD .and .u64 (a:Int) .u64 4294967295 K:=by
 refine cG (v := .int .u64 (IntKind.u64.wrap (BitVec.ofInt IntKind.u64.bits (a:Int) &&& BitVec.ofInt IntKind.u64.bits 4294967295).toNat)) (by simp only[DM,if_true]) ?_;rw[BitVec.toNat_and,nH,show (BitVec.ofInt IntKind.u64.bits 4294967295).toNat=2^32-1 by decide,Nat.and_two_pow_sub_one_eq_mod,show a%2^IntKind.u64.bits=a from Nat.mod_eq_of_lt (show a<18446744073709551616 by omega),IntWalk.u64_in _ (by omega)];exact hk
theorem qY (hk:K (.int .u32 (((a+b)%4294967296:Nat):Int))):AD .add .u32 (a:Int) .u32 (b:Int) K :=
 cG (v := .int .u32 (IntKind.u32.wrap ((a:Int)+b))) (by simp only[DM,if_true]) (by rw[<-Int.natCast_add,wrap_u32];exact hk)
end
section
variable {K:Int->Prop} {n:Nat}
theorem qR (h:n<=18446744073709551615) (hk:K (n:Int)):AY .u64 (n:Int) K:=ZE (IntWalk.u64_in _ (by omega)) hk
theorem EI (h:n<=4294967295) (hk:K (n:Int)):AY .u32 (n:Int) K:=ZE (IntWalk.u32_in _ (by omega)) hk
theorem FW (hk:K ((n%4294967296:Nat):Int)):AY .u32 (n:Int) K:=by unfold AY;rw[wrap_u32];exact hk
theorem Yr (h:n<=255) (hk:K (n:Int)):AY .u8 (n:Int) K:=ZE (IntWalk.u8_in _ (by omega)) hk
end
theorem cS {tb:List Nat} {n v:Nat} {K:Nat->Prop} (hv:tb[n]? = some v) (hk:K v):WA tb (n:Int) K:=⟨by omega,v,by rw[Int.toNat_natCast];exact hv,hk⟩
abbrev AL (n:Nat):List AV:=[.int .u32 (n:Int)]
theorem CM (l:List Nat):FP (l.map AL):=X6 (λ_=>by simp [CG,A3]) l
section
variable {l:List Nat} {K:List AV->Prop}
theorem cN {n:Nat} (hD:A2 l) (hn:n<l.length) (h : ∀ e,l[n]? = some e->e<4294967296->K (AL e)):AW (l.map AL) (n:Int) 1 K :=
 Zn hn (λ_=>rfl) λ e he=>h e he (hD.at he)
theorem U4 {a:Int} (hD:A2 l) (hn:0<=a/\a<l.length) (h : ∀ e,l[a.toNat]? = some e->e<4294967296->K (AL e)):AW (l.map AL) a 1 K :=
 iS hn (λ_=>rfl) λ e he=>h e he (hD.at he)
theorem qX {i:Nat} (hD:A2 l) (hi:i<l.length) (h : ∀ e,l[i]? = some e->e<4294967296->K (AL e)):A6 (l.map AL) (0+((i:Int)).toNat) 0 1 K :=
 F9 (f:=AL) hi (λ_=>rfl) λ e he=>h e he (hD.at he)
theorem V7 {i:Int} (hD:A2 l) (hi:0<=i/\i<l.length) (h : ∀ e,l[i.toNat]? = some e->e<4294967296->K (AL e)):A6 (l.map AL) (0+i.toNat) 0 1 K :=
 cE (f:=AL) hi (λ_=>rfl) λ e he=>h e he (hD.at he)
theorem FE {i v:Nat} {KK:List (List AV)->Prop} (hi:i<l.length) (h:KK ((l.set i v).map AL)):A5 (l.map AL) (0+((i:Int)).toNat) 0 [.int .u32 (v:Int)] KK:=FF (enc:=AL) v rfl (λ_=>rfl) hi h
theorem cQ {i v:Nat} {KK:List (List AV)->Prop} (n:Nat) (hn:i=n) (hi:n<l.length) (h:KK ((l.set n v).map AL)):A5 (l.map AL) i 0 [.int .u32 (v:Int)] KK:=V9 (enc:=AL) n v hn rfl (λ_=>rfl) hi h
end
end Go.c9
namespace Go.c9
variable {L:Lib}
theorem Ev.xE {f:Nat} {fn:AFn} {vs:List AV} {P:AV->Prop} (hL:L f=some fn) (hp:Nat.beq vs.length fn.ay=true) (hd:OC vs=true) (h:AA L [.code fn.body] (CZ 0 vs) [] (λ tm M => ∃ r,U5 fn r tm M/\P r)) (hs:fn.qu=false:=by rfl) : ∃ r,Ev L f vs r/\P r:=by
 obtain ⟨n,c,k7,hr,σ,tm,M,hR,r,hq,hP⟩:=h (λ_ _=>(0,0)) ⟨CZ 0 vs,AH.emp⟩ ⟨λ j=>Or.inr (by rw[LB];exact ZZ hd j),⟨(λ_ _ _ e=>by cases e),(λ_ _ _ e=>by simp [c4,e8]at e),(λ_ _ _ e=>by simp [c4,e8]at e),(λ_ _ _ _ _ _ e=>by simp [c4,e8]at e),(λ_ _ _ e=>by simp [c4,e8]at e)⟩⟩;exact ⟨r,Ev.fwd hL (BS.1 hp) ⟨n,c,k7,hr,rH hR hq⟩ hs,hP⟩
def YX:D6->Bool
 | .w4 .. | .box .. | .alloc .. | .e9 .. | .st .. | .mk .. | .app .. | .g9 .. | .n0 .. | .oh .. | .u6 .. | .oi .. | .cu .. => false
 | _=>true
def IM:BJ->Bool
 | .skip=>true
 | .ops l _=>l.all λ a=>YX a.op
 | .dr c _ ss=>IM c&&ss.isEmpty
 | .scope c=>IM c
 | .seq a b=>IM a&&IM b
 | .cond _ a b=>IM a&&IM b
 | .block _ c=>IM c
 | .loop c=>IM c
 | .exit _=>true
 | .ret=>true
def UD:It->Bool
 | .code c=>IM c
 | .kv _ ss=>ss.isEmpty
 | .g7 _=>true
 | .lp c=>IM c
theorem Af0 {C:Cl} {c7:List Nat} {ρ:AQ->AV} {own:AH} {op:D6} {E:CE} (ho:YX op=true) (h:g8 C c7 ρ own op=some E) : ∃ v,E = .val v:=by
 cases op<;>first|(simp [YX]at ho;done)|skip
 all_goals simp only[g8]at h
 all_goals
  first
   | (simp only[Option.some.injEq]at h;exact ⟨_,h.symm⟩)
   | (simp only[Option.map_eq_some_iff]at h;obtain ⟨_,_,rfl⟩:=h;exact ⟨_,rfl⟩)
   | skip
 all_goals (repeat' split at h)
 all_goals
  first
   | (cases h;done)
   | (simp only[Option.some.injEq]at h;exact ⟨_,h.symm⟩)
   | (simp only[Option.map_eq_some_iff]at h;obtain ⟨_,_,rfl⟩:=h;exact ⟨_,rfl⟩)
theorem AkW {C:Cl} {a:AI} (ho:YX a.op=true) {s s':St} (h:C7 C a s=some s'):s'.own=s.own:=by
 unfold C7 at h;split at h
 ·cases he:g8 C a.c7 s.ev s.own a.op with
  | none=>rw[he]at h;cases h
  | some E =>
   rw[he]at h;obtain ⟨v,rfl⟩:=Af0 ho he;simp only[Option.map_some,Option.some.injEq]at h;subst h;simp only[St.app];cases a.dst<;>rfl
 ·simp only[Option.some.injEq]at h
  subst h;cases a.dst<;>rfl
 ·cases h
theorem Tj {C:Cl} : ∀ {l:List AI},(l.all λ a=>YX a.op)=true -> ∀ {s s':St},DD C l s=some s'->s'.own=s.own
 | [],_,s,s',h=>by simp only[DD,Option.some.injEq]at h;rw[h]
 | a::l,ho,s,s',h=>by
  simp only[List.all_cons,Bool.and_eq_true]at ho;simp only[DD]at h;cases h1:C7 C a s with
  | none=>rw[h1]at h;cases h
  | some s1 =>
   rw[h1]at h;rw[Tj ho.2 h,AkW ho.1 h1]
theorem aD {id:Nat} : ∀ {k k':List It},k.all UD=true->DY id k=some k'->k'.all UD=true
 | [],_,_,h=>by simp [DY]at h
 | it::k,k',hk,h=>by
  simp only[List.all_cons,Bool.and_eq_true]at hk;cases it with
  | g7 i =>
   simp only[DY]at h;split at h
   ·cases h;exact hk.2
   ·exact aD hk.2 h
  | code c=>simp only[DY]at h;exact aD hk.2 h
  | kv a b=>simp only[DY]at h;exact aD hk.2 h
  | lp c=>simp only[DY]at h;exact aD hk.2 h
theorem JD {C:Cl} : ∀ (n:Nat) {k:List It},k.all UD=true -> ∀ {s s':St},run C n k s=some s'->s'.own=s.own
 | 0,k,_,s,s',h=>by simp [run]at h
 | n+1,[],_,s,s',h=>by
  simp only[run,Option.some.injEq]at h;rw[h]
 | n+1,it::k,hk,s,s',h=>by
  have jc:=hk;simp only[List.all_cons,Bool.and_eq_true]at hk;obtain ⟨hi,hk⟩:=hk;cases it with
  | g7 _=>simp only[run]at h;exact JD n hk h
  | kv ts ss =>
   have:ss=[]:=by simpa [UD] using hi
   subst this;simp only[run]at h;rw[JD n hk h];rfl
  | lp c=>simp only[run]at h;exact JD n (by simp only[List.all_cons,Bool.and_eq_true];exact ⟨hi,hi,hk⟩) h
  | code c =>
   cases c with
   | skip=>simp only[run]at h;exact JD n hk h
   | ops l d =>
    simp only[run]at h;cases h1:DD C l s with
    | none=>rw[h1]at h;cases h
    | some s1 =>
     rw[h1]at h;rw[JD n hk h,Tj (show (l.all λ a=>YX a.op)=true from hi) h1]
   | dr c ts ss =>
    simp only[run]at h;simp only[UD,IM,Bool.and_eq_true]at hi;exact JD n (by simp only[List.all_cons,Bool.and_eq_true];exact ⟨hi.1,hi.2,hk⟩) h
   | scope c=>simp only[run]at h;exact JD n (by simp only[List.all_cons,Bool.and_eq_true];exact ⟨hi,hk⟩) h
   | seq a b =>
    simp only[run]at h;simp only[UD,IM,Bool.and_eq_true]at hi;exact JD n (by simp only[List.all_cons,Bool.and_eq_true];exact ⟨hi.1,hi.2,hk⟩) h
   | cond x a b =>
    simp only[UD,IM,Bool.and_eq_true]at hi;simp only[run]at h;split at h
    ·exact JD n (by simp only[List.all_cons,Bool.and_eq_true];exact ⟨hi.1,hk⟩) h
    ·exact JD n (by simp only[List.all_cons,Bool.and_eq_true];exact ⟨hi.2,hk⟩) h
    ·cases h
   | block id c=>simp only[run]at h;exact JD n (by simp only[List.all_cons,Bool.and_eq_true];exact ⟨hi,rfl,hk⟩) h
   | loop c=>simp only[run]at h;exact JD n (by simp only[List.all_cons,Bool.and_eq_true];exact ⟨hi,hi,hk⟩) h
   | exit id =>
    simp only[run]at h;split at h
    ·rename_i k' he
     exact JD n (aD hk he) h
    ·cases h
   | ret =>
    simp only[run,Option.some.injEq]at h;rw[h]
def Zp (fn:AFn) (r:AV) (tm:Tm) (_M:Mem):Prop := ∃ rs,VT tm fn.res=some rs/\IE rs=r
def dP:AV->Bool
 | .j5 vs=>OC vs
 | v=>U9 v
theorem tU {σ:FR} {v:AV} (h:dP v=true):BI σ v=v:=by
 cases v with
 | j5 vs =>
  simp only[BI];congr 1;simp only[dP]at h;induction vs with
  | nil=>rfl
  | cons v r ih =>
   simp only[OC]at h;cases hv:U9 v<;>simp only[hv,cond_true,cond_false]at h
   ·cases h
   ·rw[List.map_cons,ih h]
    congr 1;cases v<;>first|rfl|(simp [U9,ux]at hv;done)|skip
    rename_i cs;exact dO (σ:=σ) (v := .agg cs) hv
 | _=>exact dO (σ:=σ) h
def ZK (L:Lib) (f:Nat) (vs:List AV) (r:AV):Prop:=dP r=true/\(∀ σ:FR,vs.map (BI σ)=vs) /\ ∀ own:AH,GS L f vs own r own
theorem tS {σ:FR} : ∀ {vs:List AV},OC vs=true->vs.map (BI σ)=vs
 | [],_=>rfl
 | v::r,h=>by
  simp only[OC]at h;cases hv:U9 v<;>simp only[hv,cond_true,cond_false]at h
  ·cases h
  ·rw[List.map_cons,dO hv,tS h]
theorem Zq {f:Nat} {fn:AFn} {vs:List AV} {r:AV} (hL:L f=some fn) (hp:Nat.beq vs.length fn.ay=true) (hd:OC vs=true) (Hi:IM fn.body=true) (l9:bE 100000 fn.res=true) (hr:dP r=true) (h:AA L [.code fn.body] (CZ 0 vs) [] (Zp fn r)):ZK L f vs r:=by
 refine ⟨hr,λ σ=>tS hd,λ own => ?_⟩;obtain ⟨n,c,k7,o9,σ,tm,M,hR,rs,Nn,he⟩:=h (λ_ _=>(0,0)) ⟨CZ 0 vs,own⟩ ⟨λ j=>Or.inr (by rw[LB];exact ZZ hd j),⟨(λ_ _ _ e=>by cases e),(λ_ _ _ e=>by simp [c4,e8]at e),(λ_ _ _ e=>by simp [c4,e8]at e),(λ_ _ _ _ _ _ e=>by simp [c4,e8]at e),(λ_ _ _ e=>by simp [c4,e8]at e)⟩⟩;have ho:=JD n (by simp [UD,Hi]) o9;obtain ⟨i1,i2⟩:=oC (N:=100000) (s:=k7) hR (λ_ _=>rfl) l9 Nn;refine GS.intro hL (BS.1 hp) ⟨n,c,k7,o9,?_,ho⟩;rw[i1,Option.map_some,Px i2,he,tU hr]
theorem L1 {f:Nat} {vs:List AV} {r:AV} {tm:Tm} {M:Mem} {K:AV->Mem->Prop} (h:ZK L f vs r) (hk:K r M):A7 L f vs tm M K:=by
 intro σ own hs;refine ⟨r,own,σ,M,?_,hs,λ_=>rfl,hk⟩;rw[h.2.1 σ,tU h.1];exact h.2.2 own
end Go.c9

namespace Go.c9
variable {L:Lib}
def rG (fn:AFn) (z:Nat) (es:List (List AV)) (tm:Tm) (M:Mem):Prop:=match fn.res with
 | [.tmp t]=>match tg tm t with
  | .row k 0 z' 0 n=>match e8 M k with
   | some (_,.rw iq es')=>z'=z/\iq=z/\n=es.length/\es'=es/\FP es
   | _=>False
  | _=>False
 | _=>False
theorem TS.x {f:Nat} {fn:AFn} {vs:List AV} {z:Nat} {es:List (List AV)} (hL:L f=some fn) (hp:Nat.beq vs.length fn.ay=true) (hd:OC vs=true) (h:AA L [.code fn.body] (CZ 0 vs) [] (rG fn z es)):TS L f vs z es:=by
 obtain ⟨n,c,k7,hr,σ,tm,M,hR,hq⟩:=h (λ_ _=>(0,0)) ⟨CZ 0 vs,AH.emp⟩ ⟨λ j=>Or.inr (by rw[LB];exact ZZ hd j),⟨(λ_ _ _ e=>by cases e),(λ_ _ _ e=>by simp [c4,e8]at e),(λ_ _ _ e=>by simp [c4,e8]at e),(λ_ _ _ _ _ _ e=>by simp [c4,e8]at e),(λ_ _ _ e=>by simp [c4,e8]at e)⟩⟩;unfold rG at hq;split at hq
 ·rename_i t qg
  split at hq
  ·rename_i k z' m Wn
   split at hq
   ·rename_i s iq es' hM
    obtain ⟨rfl,rfl,rfl,rfl,n7⟩:=hq;have hv:j4 k7.tm t = .row (σ k 0).1 (σ k 0).2 iq 0 es'.length:=by
     rcases hR.tm t with e|e
     ·rw[Wn]at e;cases e
     ·rw[e,Wn];rfl
    have hb:=hR.sat.g7 k 0 (.rw iq es') (by simp only[c4,hM]);obtain ⟨q,hq⟩:=GS.intro (r := .row (σ k 0).1 (σ k 0).2 iq 0 es'.length) (o':=k7.own) hL (BS.1 hp) ⟨n,c,k7,hr,by simp [qg,FB,hv,JB,IE],rfl⟩;refine ⟨q,?_⟩;simp only[hq,SZ,AH.get,hb];rw[if_pos (show (A8.g7 σ k (.rw iq es')).es.length=es'.length/\FP (A8.g7 σ k (.rw iq es')).es from ⟨rfl,n7⟩)];rfl
   ·exact hq.elim
  ·exact hq.elim
 ·exact hq.elim
theorem Ya {Q:Tm->Mem->Prop} {c:BJ} {k:List It} {tm:Tm} {M:Mem} (n:Nat) (h:fT (wz 0 tm) λ tm=>fM (oc M) λ M=>XK L Q n (.code c::k) tm M):AA L (.code c::k) tm M Q:=by
 rw[YK,OD]at h;exact qJ (iU h)
theorem SV {α:Type} {enc:α->List AV} {l:List α} {f z:Nat} {vs:List AV} {K:Nat->List (List AV)->Nat->Prop} (n:Nat) (h:TS L f vs z (l.map enc)) (hn:n=l.length) (hk:K z (l.map enc) n):CJ L f vs K:=⟨z,_,n,h,by simpa using hn,hk⟩
end Go.c9

namespace Go.c9
open F
attribute [local irreducible] AA AF AP AD CI AY AW A6 A5 B2 AM BQ B8 C8 BM A1 BR B9 AB A7 AJ pw BO BH CH CK CS CP CD BT CJ
variable {L:Lib}
set_option maxHeartbeats 1000000
def DC (a b:Int):Int:=if a<b then -1 else if b<a then 1 else 0
theorem IR {a b:Int} (h:a<b) : -1=DC a b:=by unfold DC;rw[if_pos h]
theorem S8 {a b:Int} (h:b<a):1=DC a b:=by unfold DC;rw[if_neg (by omega),if_pos h]
theorem WG {a b:Int} (h:a=b):0=DC a b:=by unfold DC;rw[if_neg (by omega),if_neg (by omega)]
theorem Agu (N:g6 L) (a:Int):Ev L 58 [.int .i64 a] (.bool false):=by
 refine Ev.x N.O0 rfl rfl ?_;(repeat' ((first|(apply AG<;>intro hc<;>try (exfalso;omega))|apply AE)<;>conv=>whnf))
 exact IJ rfl
theorem Agv (N:g6 L) (a:Int):Ev L 59 [.int .u32 a] (.bool false):=by
 refine Ev.x N.O1 rfl rfl ?_;(repeat' ((first|(apply AG<;>intro hc<;>try (exfalso;omega))|apply AE)<;>conv=>whnf))
 exact IJ rfl
theorem Af9 (N:g6 L) (a b:Int):Ev L 60 [.int .i64 a,.int .i64 b] (.int .i64 (DC a b)):=by
 refine Ev.x N.OY rfl rfl ?_;(repeat' ((first|(apply AG<;>intro hc<;>try (exfalso;omega))|apply AE|refine AC (Agu N _) ?_)<;>conv=>whnf))
 ·exact C2 (IR (by omega))
 ·exact C2 (S8 (by omega))
 ·exact C2 (WG (by omega))
theorem Aga (N:g6 L) (a b:Int):Ev L 61 [.int .u32 a,.int .u32 b] (.int .i64 (DC a b)):=by
 refine Ev.x N.OZ rfl rfl ?_;(repeat' ((first|(apply AG<;>intro hc<;>try (exfalso;omega))|apply AE|refine AC (Agv N _) ?_)<;>conv=>whnf))
 ·exact C2 (IR (by omega))
 ·exact C2 (S8 (by omega))
 ·exact C2 (WG (by omega))
theorem vE (N:g6 L) (l:List Nat) (q:Bool) (hl:l.length<=1099511627776):Ev L 62 [.sl q (l.map AL)] (.sl false (l.map AL)):=by
 cases l with
 | nil =>
  refine FX.nil N.HZ (FX.x N.HZ rfl rfl ?_) (FX.x N.HZ rfl rfl ?_)
  ·(repeat' (apply AE<;>conv=>whnf))
   exact AX rfl (by simp [A3,FP])
  ·(repeat' (apply AE<;>conv=>whnf))
   refine bZ (enc:=AL) (l:=[]) (l':=[]) rfl (λ_=>rfl) (by simp) (by simp) ?_;(conv=>whnf)
   (repeat' ((refine C9 (λ_=>rfl) rfl ?_ ?_;(first|rfl|simp))<;>conv=>whnf))
   exact AX rfl (by simp [A3,FP])
 | cons d l =>
  refine FX.cons (FX.x N.HZ rfl rfl ?_);(repeat' (apply AE<;>conv=>whnf))
  refine AZ (by simp) ?_;(conv=>whnf)
  skip
  refine bZ (enc:=AL) (l:=[]) (l':=d::l) rfl (λ_=>rfl) (by simp at hl ⊢;omega) (by simp at hl ⊢;omega) ?_;(conv=>whnf)
  (repeat' ((refine C9 (λ_=>rfl) rfl ?_ ?_;(first|rfl|simp))<;>conv=>whnf))
  exact AX rfl (by simp only[A3,true_and];exact CM (d::l))
theorem OQ (N:g6 L) (l:List Nat) (q:Bool) (hD:A2 l) (hl:l.length<=1099511627776):ZK L 65 [.sl q (l.map AL)] (.sl q ((dg (val l)).map AL)):=by
 refine Zq N.FS rfl rfl rfl rfl rfl ?_;(repeat' ((first|apply AR|apply AE)<;>conv=>whnf))
 refine BP (λ n=>n) (λ(n:Nat)=>n<=l.length /\ ∀ i,n<=i->i<l.length->l[i]? = some 0) (λ n=>[(3,.int .i64 n)]) (λ_=>[]) [] [] l.length (by (conv=>whnf);exact ⟨rfl,rfl,rfl⟩) ⟨Nat.le_refl _,λ i h1 h2=>by omega⟩ ?_;intro n ⟨p1,p2⟩ ih;rcases n with _|n
 ·(repeat' ((first|(apply AG<;>intro hc<;>try (exfalso;omega))|apply AE)<;>conv=>whnf))
  refine V8 (k:=0) (λ_=>rfl) (by omega) ?_;(conv=>whnf)
  refine ⟨_,rfl,?_⟩;rw[GM hD p1 p2 (Or.inl rfl)];rfl
 ·have e1:((n+1:Nat):Int)-1=n:=by omega
  (repeat' ((first|(apply AG<;>intro hc<;>try (exfalso;omega))|(apply B7;omega)|(refine U4 (by assumption) ?_ (λ e he hb => ?_);omega)|apply AE)<;>conv=>whnf))
  ·rw[e1]
   exact BG [] (ih n (by omega) ⟨by omega,λ i h1 h2=>by
    by_cases h:i=n
    ·subst h
     rw[e1,Int.toNat_natCast]at he;rw[he];congr 1;omega
    ·exact p2 i (by omega) h2⟩)
  ·refine V8 (k:=n+1) (λ_=>rfl) (by omega) ?_
   (conv=>whnf)
   refine ⟨_,rfl,?_⟩;rw[e1,Int.toNat_natCast]at he;rw[GM hD p1 p2 (Or.inr ⟨e,he,by omega⟩)];rfl
theorem Z5 (N:g6 L) (l:List Nat) (q:Bool) (hD:A2 l) (hl:l.length<=1099511627776):Ev L 66 [.sl q (l.map AL)] (.sl false ((dg (val l)).map AL)):=by
 have hc:=EX hD;refine Ev.x N.PW rfl rfl ?_;(repeat' ((first|apply AE|refine L1 (OQ N l _ hD hl) ?_|refine AC (vE N (dg (val l)) _ (by omega)) ?_)<;>conv=>whnf))
 exact AX rfl (by simp only[A3,true_and];exact CM _)
theorem Aee {a b:Nat} (h:((dg a).length:Int)≠(dg b).length):DC (dg a).length (dg b).length=DC a b:=by
 rcases Nat.lt_trichotomy (dg a).length (dg b).length with h1|h1|h1
 ·have:=ZB h1
  rw[<-IR (by omega),<-IR (by omega)]
 ·omega
 ·have:=ZB h1
  rw[<-S8 (by omega),<-S8 (by omega)]
theorem T9 (N:g6 L) (a b:List Nat) (q1 q2:Bool) (hA:A2 a) (hB:A2 b) (la:a.length<=1099511627776) (lb:b.length<=1099511627776):Ev L 67 [.sl q1 (a.map AL),.sl q2 (b.map AL)] (.int .i64 (DC (val a) (val b))):=by
 have l1:=EX hA;have l2:=EX hB;have d1:=DX (val a);have d2:=DX (val b);refine Ev.x N.PS rfl rfl ?_;(repeat' ((first|(apply AG<;>intro hc<;>try (exfalso;omega))|(apply B7;omega)|apply AR|apply AE|refine L1 (OQ N a _ hA la) ?_|refine L1 (OQ N b _ hB lb) ?_|refine AC (Af9 N _ _) ?_)<;>conv=>whnf))
 ·exact C2 (Aee (by omega))
 have hlen:(dg (val a)).length=(dg (val b)).length:=by omega
 have v1:=B3 (val a);have v2:=B3 (val b);generalize dg (val a)=X at *;generalize dg (val b)=Y at *;refine BP (λ n=>n) (λ(n:Nat)=>n<=X.length/\X.drop n=Y.drop n) (λ n=>[(7,.int .i64 ((n:Int)-1))]) (λ_=>[]) [] [] X.length (by (conv=>whnf);exact ⟨rfl,rfl,rfl⟩) ⟨Nat.le_refl _,by rw[List.drop_of_length_le (Nat.le_refl _),List.drop_of_length_le (by omega)]⟩ ?_;intro n ⟨p1,p2⟩ ih;rcases n with _|n
 ·(repeat' ((first|(apply AG<;>intro hc<;>try (exfalso;omega))|apply AE)<;>conv=>whnf))
  rw[List.drop_zero,List.drop_zero]at p2;exact C2 (WG (by rw[<-v1,<-v2,p2]))
 ·have e1:((n+1:Nat):Int)-1=n:=by omega
  rw[e1];(repeat' ((first|(apply AG<;>intro hc<;>try (exfalso;omega))|(apply B7;omega)|(refine BA (by assumption) ?_ rfl ?_;omega)|(refine cN (by assumption) ?_ (λ e he hb => ?_);omega)|apply AE|refine AC (Aga N _ _) ?_)<;>conv=>whnf))
  ·rename_i x hx _
   rcases Nat.lt_trichotomy x e with h|h|h
   ·have:=iE d1 d2 hlen hx he p2 h
    refine C2 ?_;rw[<-IR (by omega),<-IR (by omega)]
   ·omega
   ·have:=iE d2 d1 hlen.symm he hx p2.symm h
    refine C2 ?_;rw[<-S8 (by omega),<-S8 (by omega)]
  ·rename_i x hx _
   refine BW [] (by (conv=>whnf);exact ⟨rfl,rfl,rfl⟩) (ih n (by omega) ⟨by omega,?_⟩);obtain ⟨i1,e1⟩:=zS hx;obtain ⟨i2,e2⟩:=zS he;rw[List.drop_eq_getElem_cons i1,List.drop_eq_getElem_cons i2,p2,e1,e2];congr 1;omega
end Go.c9

namespace Go.c9
section
variable {U V UL VL p u0 u1 u2 v1 v2 top q r:Nat}
theorem AhS (hU:U=UL+p*(u2+4294967296*top)) (hV:V=VL+p*(v2+4294967296*v1)) (hl:UL<p) (h2:u2<4294967296) (au:0<V):U/V*v1<=top:=by
 have h1:U/V*V<=U:=Nat.div_mul_le_self U V;generalize U/V=Q at *;have h3:U<p*(4294967296*(top+1)):=by
  have:p*(u2+4294967296*top)+p<=p*(4294967296*(top+1)):=by
   rw[<-Nat.mul_succ];exact Nat.mul_le_mul_left p (by omega)
  omega
 have h4:p*(4294967296*(Q*v1))<=Q*V:=by
  have e:Q*V=Q*VL+Q*(p*v2)+p*(4294967296*(Q*v1)):=by rw[hV];grind
  omega
 have h5:p*(4294967296*(Q*v1))<p*(4294967296*(top+1)):=by omega
 have:=Nat.lt_of_mul_lt_mul_left h5
 omega
theorem AhR (hU:U=UL+p*(u2+4294967296*top)) (hV:V=VL+p*(v2+4294967296*v1)) (hl:UL<p) (hq:q*v1+r=top) (h:r*4294967296+u2<q*v2) (au:0<V):U/V<q:=by
 rw[Nat.div_lt_iff_lt_mul au];have e:q*V=q*VL+p*(q*v2+4294967296*(q*v1)):=by rw[hV];grind
 have h1:p*(u2+4294967296*top)+p<=p*(q*v2+4294967296*(q*v1)):=by
  rw[<-Nat.mul_succ];exact Nat.mul_le_mul_left p (by omega)
 omega
theorem AhQ (h:U<4294967296*V) (hq:4294967296<=q) (au:0<V):U/V<q:=by
 have:U/V<4294967296:=(Nat.div_lt_iff_lt_mul au).2 h
 omega
theorem xL (hU:U=UL+p*(u2+4294967296*top)) (hV:V=VL+p*(v2+4294967296*v1)) (Bw:VL<p) (h1:2147483648<=v1) (hq:q*v1+r=top) (h:q*v2<=r*4294967296+u2) (hqB:q<4294967296):q<=U/V+1:=by
 have au:0<V:=by
  have:p*4294967296<=p*(v2+4294967296*v1):=Nat.mul_le_mul_left p (by omega)
  omega
 by_cases h0:q=0
 ·subst h0;exact Nat.zero_le _
 have e:q*V=q*VL+p*(q*v2+4294967296*(q*v1)):=by rw[hV];grind
 have h2:p*(q*v2+4294967296*(q*v1))<=p*(u2+4294967296*top):=Nat.mul_le_mul_left p (by omega);have h3:q*VL<V:=by
  have a1:q*VL<=4294967296*VL:=Nat.mul_le_mul_right _ (by omega);have a2:p*4294967296<=p*(v2+4294967296*v1):=Nat.mul_le_mul_left p (by omega);omega
 have h4:(q-1)*V<U+1:=by
  have:(q-1)*V+V=q*V:=by
   have:q=q-1+1:=by omega
   rw[<-Nat.succ_mul,Nat.succ_eq_add_one,<-this]
  omega
 have h5:q-1<=U/V:=(Nat.le_div_iff_mul_le au).2 (by omega);omega
end
theorem tY {U V U' q:Nat} (au:0<V) (h1:U/V<=q) (h:U'+q*V=U):q=U/V/\U'=U%V:=by
 have h2:q*V<=U:=by omega
 have h3:q<=U/V:=(Nat.le_div_iff_mul_le au).2 h2;have h4:q=U/V:=by omega
 have:=Nat.div_add_mod U V
 rw[Nat.mul_comm,<-h4]at this;exact ⟨h4,by omega⟩
theorem tX {U V U' q P:Nat} (au:0<V) (h2:q<=U/V+1) (Dw:U'<P) (h:U'+q*V=U+P):q-1=U/V/\1<=q/\U'+V=U%V+P:=by
 have h3:U/V*V<=U:=Nat.div_mul_le_self U V;have h4:U/V<q:=by
  rcases Nat.lt_or_ge (U/V) q with h|h
  ·exact h
  ·have:q*V<=U/V*V:=Nat.mul_le_mul_right _ h
   omega
 have h6:=Nat.div_add_mod U V;rw[Nat.mul_comm]at h6;generalize U/V=Q at *;generalize U%V=R at *;obtain rfl:q=Q+1:=by omega
 rw[Nat.add_mul,Nat.one_mul]at h;exact ⟨by omega,by omega,by omega⟩
theorem hJ {u pl bw:Nat} (hu:u<4294967296) (hp:pl<4294967296) (hb:bw<=1):EQ (EQ u pl) bw%4294967296+pl+bw=u+4294967296*(EQ (EQ u pl) bw/9223372036854775808)/\EQ (EQ u pl) bw/9223372036854775808<=1:=by
 rw[XH,XH];omega
theorem Ak1 {d e bw:Nat} (hu:d<4294967296) (hp:e<4294967296) (hb:bw<=1):EQ (EQ d bw) e%4294967296+e+bw=d+4294967296*(EQ (EQ d bw) e/9223372036854775808)/\EQ (EQ d bw) e/9223372036854775808<=1:=by
 rw[XH,XH];omega
theorem Ak0 {d bw:Nat} (hu:d<4294967296) (hb:bw<=1):EQ d bw%4294967296+bw=d+4294967296*(EQ d bw/9223372036854775808)/\EQ d bw/9223372036854775808<=1:=by
 rw[XH];omega
theorem Tl {V Y X p D e bw db d:Nat} (h:V+Y=X+p*bw) (hd:D+e+bw=d+4294967296*db):V+p*D+(Y+p*e)=X+p*d+p*4294967296*db:=by
 have h2:p*D+p*e+p*bw=p*d+p*4294967296*db:=by
  rw[<-Nat.mul_add,<-Nat.mul_add,hd,Nat.mul_add,Nat.mul_assoc]
 omega
theorem YV {a b:Nat} (ha:a<4294967296) (hb:b<4294967296):a*b<=18446744065119617025 :=
 Nat.mul_le_mul (show a<=4294967295 by omega) (show b<=4294967295 by omega)
theorem uA {X Y s:Nat} (hs:0<s):X*s/(Y*s)=X/Y/\X*s%(Y*s)/s=X%Y:=by
 refine ⟨Nat.mul_div_mul_right X Y hs,?_⟩;rw[Nat.mul_mod_mul_right,Nat.mul_div_cancel _ hs]
end Go.c9
