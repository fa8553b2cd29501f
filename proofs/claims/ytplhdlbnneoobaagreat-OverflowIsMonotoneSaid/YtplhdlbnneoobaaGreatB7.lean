/-
  The walk by computation is sound: calls, regions, code, loops, functions.
-/
import Derived.Test.YtplhdlbnneoobaaGreatB6
import Derived.Calls
import Derived.Test.YtplhdlbnneoobaaGreatB3
set_option linter.unusedSimpArgs false
set_option linter.unusedVariables false
set_option linter.unnecessarySimpa false
namespace Go.b7
section
variable {σ:FG} {tm:Tm} {M:Mem} {st:St} {L:Lib} {c4:List Nat}
theorem rI {own:AH} {q:Bool} {d:Nat} : ∀ {e:List AV},FA e=true->e.mapM (snap own q d)=some e
 | [],_=>rfl
 | v::r,h=>by
  have hv:snap own q d v=some v/\FA r=true:=by
   cases v<;>simp only[FA]at h<;>first|cases h|exact ⟨by cases d<;>rfl,h⟩
  rw[List.mapM_cons,hv.1,rI hv.2];rfl
theorem rK {own:AH} {q:Bool} {d:Nat} : ∀ {e:List AV},L6 e=true->e.mapM (snap own q d)=some (e.map nl)
 | [],_=>rfl
 | v::r,h=>by
  have hv:snap own q d v=some (nl v)/\L6 r=true:=by
   cases v<;>simp only[L6]at h<;>first|cases h|exact ⟨by cases d<;>rfl,h⟩
  rw[List.mapM_cons,hv.1,rK hv.2];rfl
theorem rJ {own:AH} {q:Bool} {d:Nat} : ∀ {es:List (List AV)},(∀ e∈es,L6 e=true)->es.mapM (λ cs:List AV=>cs.mapM (snap own q d))=some (es.map λ e=>e.map nl)
 | [],_=>rfl
 | e::r,h=>by
  rw[List.mapM_cons,rK (h e List.mem_cons_self),rJ λ x hx=>h x (List.mem_cons_of_mem _ hx)];rfl
theorem rH {own:AH} {q:Bool} {d:Nat} : ∀ {es:List (List AV)},(∀ e∈es,FA e=true)->es.mapM (λ cs:List AV=>cs.mapM (snap own q d))=some es
 | [],_=>rfl
 | e::r,h=>by
  rw[List.mapM_cons,rI (h e List.mem_cons_self),rH λ x hx=>h x (List.mem_cons_of_mem _ hx)];rfl
theorem tM (hs:IG σ st.own M) {q:Bool} {v:AV} {K:AV->Prop} (h:SI q M c4 v K) : ∃ v',(∀ d,snap (st.own.m5 c4) q (d+1) (A6 σ v)=some v')/\K v'/\v ≠ .any/\BK σ v=A6 σ v:=by
 cases v with
 | row key t z off len =>
  have fin : ∀ (z':Nat) (es:List (List AV)),((st.own.m5 c4) (σ key t).1).c9 (σ key t).2=some ⟨z',es⟩->z=z'->AU es off len (λ es=>K (.sl q es)) -> ∃ v',(∀ d,snap (st.own.m5 c4) q (d+1) (A6 σ (.row key t z off len))=some v')/\K v'/\AV.row key t z off len ≠ .any/\BK σ (.row key t z off len)=A6 σ (.row key t z off len):=by
   intro z' es hb hz h;subst hz;obtain ⟨h1,h2,h3⟩:=h;refine ⟨_,λ d => ?_,h3,(by intro e;cases e),rfl⟩;simp only[A6,snap,EH,AH.get,hb];rw[if_pos ⟨h1,trivial⟩];simp only;rw[rJ λ e he=>h2 e (List.mem_of_mem_drop (List.mem_of_mem_take he))];rfl
  simp only[SI]at h;split at h
  ·rename_i s z' es hm
   split at h
   ·cases hz:Nat.beq z z'<;>simp only[hz,cond_true,cond_false]at h
    cases hb:QW s c4<;>simp only[hb,cond_true,cond_false]at h;refine fin z' es ?_ (BJ.1 hz) h;have w3:=hs.c9 _ _ _ (EI hm);rw[hs.site _ _ _ hm]at w3 ⊢;rw[TT hb];exact w3
   ·exact h.elim
  ·rename_i s rows hm
   split at h
   ·exact h.elim
   ·rename_i i
    split at h
    ·obtain ⟨z',es,g,h⟩:=h
     cases hz:Nat.beq z z'<;>simp only[hz,cond_true,cond_false]at h;exact fin z' es (hs.c9 key (i+1) (.rw z' es) (by simp [c5,hm,g])) (BJ.1 hz) h
    ·rename_i b r
     cases hb:R5 (b::r)<;>simp only[hb,cond_true,cond_false]at h;obtain ⟨z',es,g,h⟩:=h;cases hz:Nat.beq z z'<;>simp only[hz,cond_true,cond_false]at h;have g':c5 M key (i+1)=some (.rw z' es):=by simp [c5,hm,g]
     refine fin z' es ?_ (BJ.1 hz) h;rw[eJ (hs.low _ _ _ g' rfl) hb];exact hs.c9 key (i+1) (.rw z' es) g'
  ·exact h.elim
 | int k n=>exact ⟨_,λ d=>rfl,h,(by intro e;cases e),rfl⟩
 | bool b=>exact ⟨_,λ d=>rfl,h,(by intro e;cases e),rfl⟩
 | sl l es=>exact ⟨_,λ d=>rfl,h,(by intro e;cases e),rfl⟩
 | x9 c=>exact ⟨_,λ d=>rfl,h,(by intro e;cases e),rfl⟩
 | nil=>exact ⟨_,λ d=>rfl,h,(by intro e;cases e),rfl⟩
 | _=>exact (h:False).elim
theorem tL (hs:IG σ st.own M) {q:Bool} : ∀ {l:List AV} {K:List AV->Prop},Y8 q M c4 l K -> ∃ l',(∀ d,(l.map (A6 σ)).mapM (snap (st.own.m5 c4) q (d+1))=some l')/\K l'
 | [],K,h=>⟨[],λ d=>rfl,h⟩
 | v::r,K,h=>by
  obtain ⟨v',h1,h2,_⟩:=tM hs (show SI q M c4 v λ v'=>Y8 q M c4 r λ r'=>K (v'::r') from h);obtain ⟨l',h3,h4⟩:=tL hs h2;refine ⟨v'::l',λ d => ?_,h4⟩;rw[List.map_cons,List.mapM_cons,h1 d,h3 d];rfl
theorem tJ (hs:IG σ st.own M) {q:Bool} : ∀ {l:List (List AV)} {K:List (List AV)->Prop},gG q M c4 l K -> ∃ l',(∀ d,(l.map λ cs=>cs.map (A6 σ)).mapM (λ cs:List AV=>cs.mapM (snap (st.own.m5 c4) q (d+1)))=some l')/\K l'
 | [],K,h=>⟨[],λ d=>rfl,h⟩
 | v::r,K,h=>by
  obtain ⟨v',h1,h2⟩:=tL hs (show Y8 q M c4 v λ v'=>gG q M c4 r λ r'=>K (v'::r') from h);obtain ⟨l',h3,h4⟩:=tJ hs h2;refine ⟨v'::l',λ d => ?_,h4⟩;rw[List.map_cons,List.mapM_cons,h1 d,h3 d];rfl
theorem fR {own:AH} {q:Bool} {d:Nat} {k:Nat} : ∀ {rows:List (Option (Nat × List (List AV)))} {i:Nat},(∀ j z es,rows[j]? = some (some (z,es))->(own (σ k (i+j+1)).1).c9 (σ k (i+j+1)).2=some ⟨z,es⟩ /\ ∀ e∈es,FA e=true) ->
  (B4 σ k i rows).mapM (λ cs:List AV=>cs.mapM (snap own q (d+1)))=some (O2 q rows)
 | [],i,h=>rfl
 | none::r,i,h=>by
  rw[B4,List.mapM_cons,fR (i:=i+1) λ j z es hj=>by
   have:=h (j+1) z es (by simpa using hj)
   rwa [show i+(j+1)+1=i+1+j+1 by omega]at this]
  rfl
 | some (z,es)::r,i,h=>by
  rw[B4,List.mapM_cons,fR (i:=i+1) λ j z es hj=>by
   have:=h (j+1) z es (by simpa using hj)
   rwa [show i+(j+1)+1=i+1+j+1 by omega]at this]
  obtain ⟨h1,h2⟩:=h 0 z es rfl;have:snap own q (d+1) (.row (σ k (i+1)).1 (σ k (i+1)).2 z 0 es.length)=some (.sl q es):=by
   simp only[snap,EH,AH.get];rw[show (own (σ k (i+1)).1).c9 (σ k (i+1)).2=some ⟨z,es⟩ from h1];simp only[Nat.zero_add,Nat.le_refl,and_self,if_true,List.drop_zero];rw[List.take_of_length_le (Nat.le_refl _),rH h2];rfl
  rw[List.mapM_cons,this];rfl
theorem tH (hs:IG σ st.own M) {q:Bool} {v:AV} {K:AV->Prop} (h:WA q M c4 v K) : ∃ v',snap (st.own.m5 c4) q 6 (A6 σ v)=some v'/\K v'/\v ≠ .any/\BK σ v=A6 σ v/\CY (st.own.m5 c4) q (A6 σ v)=some v':=by
 have oo:SI q M c4 v K -> ∃ v',snap (st.own.m5 c4) q 6 (A6 σ v)=some v'/\K v'/\v ≠ .any/\BK σ v=A6 σ v/\CY (st.own.m5 c4) q (A6 σ v)=some v':=by
  intro h;obtain ⟨v',h1,h2,h3,h4⟩:=tM hs h;refine ⟨v',h1 5,h2,h3,h4,?_⟩;have:=h1 5
  cases v<;>first|exact this|exact (h:False).elim
 unfold WA at h;split at h
 ·rename_i key z off len
  split at h
  ·rename_i s z' es hm
   cases hz:Nat.beq z z'<;>simp only[hz,cond_true,cond_false]at h;cases hb:QW s c4<;>simp only[hb,cond_true,cond_false]at h;cases ho:Nat.beq off 0<;>simp only[ho,cond_true,cond_false]at h;obtain rfl:=BJ.1 hz;obtain rfl:=BJ.1 ho;obtain ⟨rfl,h⟩:=h;obtain ⟨l',h1,h2⟩:=tJ hs h;have w3:=hs.c9 _ _ _ (EI hm);rw[hs.site _ _ _ hm]at w3;have key:snap (st.own.m5 c4) q 6 (A6 σ (.row key 0 z 0 es.length))=some (.sl q l'):=by
    simp only[A6,snap,EH,AH.get,hs.site _ _ _ hm];rw[TT hb,w3];simp only[A7.c9,Nat.zero_add,List.length_map,Nat.le_refl,and_self,if_true,List.drop_zero];rw[List.take_of_length_le (by simp),h1 4];rfl
   exact ⟨_,key,h2,(by intro e;cases e),rfl,key⟩
  ·rename_i s rows hm
   split at h
   ·cases hz:Nat.beq z 1<;>simp only[hz,cond_true,cond_false]at h
    obtain rfl:=BJ.1 hz;obtain ⟨rfl,rfl,h1,h2⟩:=h;have w3:=hs.c9 _ _ _ (EI hm);have key:snap (st.own.m5 []) q 6 (A6 σ (.row key 0 1 0 rows.length))=some (.sl q (O2 q rows)):=by
     simp only[A6,snap,EH,AH.get,AH.m5];rw[w3];simp only[A7.c9,Nat.zero_add,E5,Nat.le_refl,and_self,if_true,List.drop_zero];rw[List.take_of_length_le (by rw[E5];exact Nat.le_refl _),fR (i:=0) λ j z es hj=>⟨by
      have:=hs.c9 key (j+1) (.rw z es) (by simp [c5,hm,hj])
      simpa [A7.c9] using this,h1 z es (zM hj)⟩]
     rfl
    exact ⟨_,key,h2,(by intro e;cases e),rfl,key⟩
   ·exact h.elim
  ·exact oo h
 ·exact oo h
theorem tN (hs:IG σ st.own M) {q:Bool} : ∀ {l:List AV} {K:List AV->Prop},gH q M c4 l K -> ∃ l',(l.map (A6 σ)).mapM (snap (st.own.m5 c4) q 6)=some l'/\K l'
 | [],K,h=>⟨[],rfl,h⟩
 | v::r,K,h=>by
  obtain ⟨v',h1,h2,_⟩:=tH hs (show WA q M c4 v λ v'=>gH q M c4 r λ r'=>K (v'::r') from h);obtain ⟨l',h3,h4⟩:=tN hs h2;refine ⟨v'::l',?_,h4⟩;rw[List.map_cons,List.mapM_cons,h1,h3];rfl
theorem Y7 (hs:IG σ st.own M) {q:Bool} {v:AV} {K:AV->Prop} (h:P3 q M c4 v K) : ∃ v',CY (st.own.m5 c4) q (A8 σ v)=some v'/\K v'/\v ≠ .any/\A8 σ v=BK σ v:=by
 cases v with
 | agg cs =>
  simp only[P3]at h;obtain ⟨l',h1,h2⟩:=tN hs h;refine ⟨.agg l',?_,h2,(by intro e;cases e),rfl⟩;simp only[I4,CY,h1,Option.map_some]
 | g8 vs=>exact (h:False).elim
 | fn p f g cs=>exact (h:False).elim
 | any=>exact (h:False).elim
 | _ =>
  simp only[P3]at h;obtain ⟨v',h1,h2,h3,h4,h5⟩:=tH hs h;exact ⟨v',h5,h2,h3,rfl⟩
theorem ZA (hr:RX σ tm M st) : ∀ {xs:List AP} {K:List AV->Prop},WB tm M c4 xs K -> ∃ vs,(xs.map st.ev).mapM (CY (st.own.m5 c4) true)=some vs/\K vs
 | [],K,h=>⟨[],rfl,h⟩
 | x::r,K,h=>by
  obtain ⟨v',h1,h2,h3,_⟩:=Y7 hr.sat (show P3 true M c4 (ex tm x) λ v=>WB tm M c4 r λ vs=>K (v::vs) from h);obtain ⟨l',h4,h5⟩:=ZA hr h2;refine ⟨v'::l',?_,h5⟩;rw[List.map_cons,List.mapM_cons,hr.ev rfl h3,h1,h4];rfl
theorem AfV (hs:IG σ st.own M) {v:AV} {K:AV->Prop} (h:Y9 M c4 v K) : ∃ v',O5 (st.own.m5 c4) true (A8 σ v)=some v'/\K v'/\v ≠ .any/\A8 σ v=BK σ v:=by
 cases v with
 | nil=>exact ⟨.nil,rfl,h,(by intro e;cases e),rfl⟩
 | _ =>
  simp only[Y9]at h;obtain ⟨v',h1,h2,h3,h4⟩:=Y7 hs h;exact ⟨v',h1,h2,h3,h4⟩
theorem tO (hr:RX σ tm M st) : ∀ {xs:List AP} {K:List AV->Prop},gI tm M c4 xs K -> ∃ vs,(xs.map st.ev).mapM (O5 (st.own.m5 c4) true)=some vs/\K vs
 | [],K,h=>⟨[],rfl,h⟩
 | x::r,K,h=>by
  obtain ⟨v',h1,h2,h3,_⟩:=AfV hr.sat (show Y9 M c4 (ex tm x) λ v=>gI tm M c4 r λ vs=>K (v::vs) from h);obtain ⟨l',h4,h5⟩:=tO hr h2;refine ⟨v'::l',?_,h5⟩;rw[List.map_cons,List.mapM_cons,hr.ev rfl h3,h1,h4];rfl
theorem U9 (hr:RX σ tm M st) : ∀ {xs:List AP} {K:List AV->Prop},TF tm xs K -> ∃ vs,xs.map st.ev=vs.map (A8 σ)/\K vs
 | [],K,h=>⟨[],rfl,h⟩
 | x::r,K,h=>by
  obtain ⟨h1,h2⟩:=XZ (show fV (ex tm x) λ v=>TF tm r λ vs=>K (v::vs) from h);obtain ⟨vs,h3,h4⟩:=U9 hr h2;exact ⟨ex tm x::vs,by rw[List.map_cons,List.map_cons,hr.ev rfl h1,h3],h4⟩
theorem kM {v:AV} (h:A4 v):A6 σ v=v:=by
 cases v<;>first|rfl|(simp only[A4]at h)
theorem kK : ∀ {l:List AV},CB l->l.map (A6 σ)=l
 | [],_=>rfl
 | v::r,h=>by
  simp only[CB]at h;rw[List.map_cons,kM h.1,kK h.2]
theorem kN {v:AV} (h:A4 v):BK σ v=v:=by
 cases v with
 | agg cs=>simp only[A4]at h;simp only[BK,kK h]
 | fn p f g cs=>simp only[A4]at h
 | _=>exact kM (σ:=σ) h
theorem kL : ∀ {l:List AV},CB l->l.map (BK σ)=l
 | [],_=>rfl
 | v::r,h=>by
  simp only[CB]at h;rw[List.map_cons,kN h.1,kL h.2]
theorem aS {v:AV} (h:A4 v):A8 σ v=v:=by
 cases v with
 | g8 cs=>simp only[A4]at h;simp only[A8,kL h]
 | _=>exact kN (σ:=σ) h
theorem rX {I:List AV->Option (AV × AH)} {vs:List AV} {r:AV} (h:IV I vs=some r):A4 r:=by
 unfold IV at h;split at h
 ·split at h
  ·split at h
   ·obtain rfl:=Option.some.inj h
    assumption
   ·cases h
  ·cases h
 ·cases h
theorem Ev.clean {f:Nat} {vs:List AV} {r:AV} (h:Ev L f vs r):A4 r:=by
 obtain ⟨n,h⟩:=h;unfold HC KN at h;split at h
 ·split at h
  ·rename_i r1 r2 h1 h2
   split at h
   ·obtain rfl:=Option.some.inj h
    exact rX h1
   ·cases h
  ·cases h
 ·exact rX h
theorem RX.put (h:RX σ tm M st) (d:Nat) {v v':AV} (e:v'=A8 σ v):RX σ ((d,v)::tm) M ⟨ff st.tm d v',st.own⟩:=by
 refine ⟨λ j => ?_,h.sat⟩;simp only[tg,WL];cases hb:Nat.beq j d
 ·rw[if_neg (FH.1 hb)];exact h.tm j
 ·rw[if_pos (BJ.1 hb)];exact Or.inr e
theorem rL : ∀ {cs:List AV},VX cs=true->cs.map (A8 σ)=cs.map (A6 σ)
 | [],_=>rfl
 | v::r,h=>by
  simp only[VX]at h;cases hv:eK v<;>simp only[hv,cond_true,cond_false]at h
  ·cases h
  ·rw[List.map_cons,List.map_cons,rL h]
   cases v<;>first|rfl|(simp [eK]at hv)
theorem Qp {v:AV} (h:GK v=true):A6 σ v=v:=by cases v<;>first|rfl|(simp [GK]at h)
theorem mB : ∀ {cs:List AV},cs.all GK=true->cs.map (A6 σ)=cs
 | [],_=>rfl
 | c::r,h=>by
  simp only[List.all_cons,Bool.and_eq_true]at h;rw[List.map_cons,Qp h.1,mB h.2]
theorem mC : ∀ {vs:List AV},vs.all dq=true->vs.map (A8 σ)=vs
 | [],_=>rfl
 | v::r,h=>by
  simp only[List.all_cons,Bool.and_eq_true]at h;rw[List.map_cons,mC h.2];congr 1;cases v with
  | agg cs=>simp only[A8,BK,mB (show cs.all GK=true from h.1)]
  | _=>first|rfl|(simp [dq,GK]at h)
theorem Ze {r:AV} (hc:A4 r) (hf:IE r):A8 σ (uc r)=uc r:=by
 cases r with
 | agg cs =>
  simp only[uc,A8,BK];congr 1;rw[List.map_map];refine List.map_congr_left λ c pg => ?_
  have:=hf c pg
  cases c<;>first|rfl|exact this.elim
 | _=>first|rfl|exact hf.elim
theorem Zb {c:AV} (h:A4 c):A6 σ (GM c)=GM c:=by
 cases c<;>first|(simp only[GM,A6];done)|(simp only[A4]at h;done)
theorem Zc {r:AV} (h:A4 r) (hd:Q4 r):A8 σ (KG r)=KG r:=by
 cases r with
 | agg cs =>
  simp only[A4]at h;have : ∀ cs:List AV,CB cs->(HR cs).map (A6 σ)=HR cs:=by
   intro cs;induction cs with
   | nil=>intro _;simp [HR]
   | cons c l ih =>
    intro h;simp only[CB]at h;rw[HR,List.map_cons,ih h.2,Zb h.1]
  simp only[KG,A8,BK,this cs h]
 | g8=>exact hd.elim
 | fn=>exact hd.elim
 | _=>first|(simp only[KG,GM,A8,BK,A6];done)|(simp only[A4]at h;done)
theorem Zd {r:AV} (h:A4 r) (hd:IE r\/Q4 r):A8 σ (LM r)=LM r:=by
 by_cases hf:IE r
 ·rw[dQ hf];exact Ze h hf
 ·rw[dP hf];exact Zc h (hd.resolve_left hf)
theorem pH : ∀ {l:List AV},X6 l=true->l.map (A8 σ)=l
 | [],_=>rfl
 | .int _ _::r,h=>by
  rw[List.map_cons,pH (l:=r) h];rfl
theorem yH {K:AV->Mem->Prop} (hr:RX σ tm M st) {op:DR} (h:XE L tm M c4 K op):BU L tm c4 K op st\/(∃ f xs,op = .call f xs)\/(∃ f xs,op = .e9 f xs)\/(∃ x xs,op = .m6 x xs)\/(∃ f xs,op = .l8 f xs)\/(∃ s f xs,op = .o8 s f xs) \/ ∃ s f xs,op = .z7 s f xs:=by
 cases op with
 | call f xs=>exact Or.inr (Or.inl ⟨_,_,rfl⟩)
 | e9 f xs=>exact Or.inr (Or.inr (Or.inl ⟨_,_,rfl⟩))
 | m6 x xs=>exact Or.inr (Or.inr (Or.inr (Or.inl ⟨_,_,rfl⟩)))
 | l8 f xs=>exact Or.inr (Or.inr (Or.inr (Or.inr (Or.inl ⟨_,_,rfl⟩))))
 | o8 s f xs=>exact Or.inr (Or.inr (Or.inr (Or.inr (Or.inr (Or.inl ⟨_,_,_,rfl⟩)))))
 | z7 s f xs=>exact Or.inr (Or.inr (Or.inr (Or.inr (Or.inr (Or.inr ⟨_,_,_,rfl⟩)))))
 | kj s n x v=>exact Or.inl (yT hr h)
 | nr ne x=>exact Or.inl (yJ hr h)
 | bad=>exact (show False from h).elim
 | de tb x=>exact Or.inl (yR hr h)
 | ki p f xs=>exact Or.inl (yN hr h)
 | a8 x=>exact Or.inl (yP hr h)
 | x8 s z=>exact Or.inl (yV hr h)
 | pick c a b=>exact Or.inl (yQ hr h)
 | bin o x y=>exact Or.inl (xZ hr h)
 | beq ne x y=>exact Or.inl (xY hr h)
 | un o x=>exact Or.inl (yU hr h)
 | conv k x=>exact Or.inl (yD hr h)
 | box s x=>exact Or.inl (yA hr h)
 | alloc s z=>exact Or.inl (xU hr h)
 | build z ps=>exact Or.inl (yC hr h)
 | b8 s z ps=>exact Or.inl (yB hr h)
 | a5 x o=>exact Or.inl (yF hr h)
 | jy x o n a=>exact Or.inl (yG hr h)
 | a7 a z x i=>exact Or.inl (yI hr h)
 | ld a n x=>exact Or.inl (yK hr h)
 | st n x v=>exact Or.inl (jC hr h)
 | mk s z b ze l c=>exact Or.inl (yM hr h)
 | bz z x lo hi=>exact Or.inl (yS hr h)
 | ext x i=>exact Or.inl (yE hr h)
 | len x=>exact Or.inl (yL hr h)
 | mm m xs=>exact Or.inl (yO hr h)
 | app s z b x y=>exact Or.inl (xV hr h)
theorem Z8 {K:AV->Mem->Prop} (hr:RX σ tm M st) {op:DR} {d:Option Nat} {g:Option (Nat × Bool)} {l:List AI} {k:List It} {Q:St->Prop} (h:XE L tm M c4 K op) (hg:FJ st g=some true)
  (hk : ∀ σ' v v' M' l6,K v M'->v'=A8 σ' v->RX σ' tm M' ⟨st.tm,l6⟩->AO L l k ⟨((⟨st.tm,l6⟩:St).dst d v').tm,l6⟩ Q):AO L (⟨d,op,g,c4⟩::l) k st Q:=by
 rcases yH hr h with ⟨E,σ',v,M',h1,h2,h3,h4⟩|⟨f,xs,rfl⟩|⟨f,xs,rfl⟩|⟨x,xs,rfl⟩|⟨f,xs,rfl⟩|⟨s,f,xs,rfl⟩|⟨s,f,xs,rfl⟩
 ·rw[wL hg h1,aG]
  have:=hk σ' v _ M' _ h2 h3 h4
  cases d<;>exact this
 ·simp only[XE]at h
  obtain ⟨vs,h1,r,h2,h3⟩:=ZA hr h;rw[wB hg h1 h2];have:=hk σ r r M st.own h3 (aS h2.clean).symm hr
  cases d<;>exact this
 ·simp only[XE]at h
  obtain ⟨vs,h1,h2⟩:=U9 hr h;obtain ⟨r,l6,σ',M',h3,h4,h5,h6⟩:=h2 σ st.own hr.sat;rw[<-h1]at h3;rw[wD hg h3];have:=hk σ' r _ M' l6 h6 rfl ⟨λ j=>by rw[h5 j];exact hr.tm j,h4⟩
  cases d<;>exact this
 ·simp only[XE]at h
  split at h
  ·rename_i f g' e1
   obtain ⟨h0,h⟩:=h;obtain ⟨vs,h1,r,h2,h3⟩:=ZA hr h;have e2:=hr.ev e1 (by intro e;cases e);rw[Y3,List.map_nil,h0]at e2;rw[wE hg e2 h1 h2];have:=hk σ r r M st.own h3 (aS h2.clean).symm hr
   cases d<;>exact this
  ·rename_i f g' c cs e1
   obtain ⟨h0,h⟩:=h;obtain ⟨v',h1,h,_,_⟩:=Y7 hr.sat h;obtain ⟨vs,h2,r,h3,h4⟩:=ZA hr h;have e2:=hr.ev e1 (by intro e;cases e);rw[Y3,h0]at e2;have h5:(AV.agg (c::cs |>.map (A6 σ))::xs.map st.ev).mapM (CY st.own true)=some (v'::vs):=by
    rw[List.mapM_cons,show CY st.own true (AV.agg (c::cs |>.map (A6 σ)))=some v' from h1,show (xs.map st.ev).mapM (CY st.own true)=some vs from h2];rfl
   rw[wC hg e2 h5 h3];have:=hk σ r r M st.own h4 (aS h3.clean).symm hr
   cases d<;>exact this
  ·rename_i f g' cs e1
   cases ho:VX cs<;>simp only[ho,cond_true,cond_false]at h;obtain ⟨h0,h⟩:=h;obtain ⟨vs,h1,h2⟩:=U9 hr h;rw[HN]at h2;obtain ⟨r,l6,σ',M',h3,h4,h5,h6⟩:=h2 σ st.own hr.sat;rw[List.map_append,<-h1,rL (σ:=σ) ho]at h3;have e2:=hr.ev e1 (by intro e;cases e);rw[Y3,h0]at e2;rw[wH hg e2 h3];have:=hk σ' r _ M' l6 h6 rfl ⟨λ j=>by rw[h5 j];exact hr.tm j,h4⟩
   cases d<;>exact this
  ·exact h.elim
 ·simp only[XE]at h
  obtain ⟨vs,h1,h2⟩:=U9 hr h;cases ho:vs.all dq<;>simp only[ho,cond_true,cond_false]at h2;obtain ⟨r,h3,h4,h5⟩:=h2;have e1:xs.map st.ev=vs:=by rw[h1];exact mC ho
  rw[wF hg (by rw[e1];exact ho) (by rw[e1];exact h3) h4];have:=hk σ (LM r) (LM r) M st.own h5 (Zd h3.clean h4).symm hr
  cases d<;>exact this
 ·simp only[XE]at h
  cases Bz:E4 s<;>simp only[Bz,cond_true,cond_false]at h;obtain ⟨vs,h1,z,es,n,h2,rfl,h3⟩:=tO hr h;obtain ⟨k',g1,g2,g3⟩:=HZ h3;refine wG hg h1 h2 ?_;rw[aG];have:=hk (C1 σ k' λ_=>(s,st.own.g7 s)) _ (.row s (st.own.g7 s) z 0 es.length) _ _ g3 (by simp only[DE,BZ]) (hr.dc (q:=s) g1 g2 (.rw z es) trivial rfl (λ_=>Bz))
  cases d<;>exact this
 ·simp only[XE]at h
  obtain ⟨vs,h1,h2⟩:=U9 hr h;split at h2
  ·rename_i key rest
   cases hi:X6 rest<;>simp only[hi,cond_true,cond_false]at h2;obtain ⟨cells,cq,kd,n,g1,g2,g3,g4,g5⟩:=h2;have bq:=hr.sat.site _ _ _ g1;have w3:=hr.sat.c9 _ _ _ (EI g1);rw[bq]at w3;simp only[A7.c9,JB g2]at w3;have z0:xs.map st.ev = .ptr s (σ key 0).2 0 0::rest:=by
    rw[h1,List.map_cons,EA,bq,pH hi]
   have hE:=g4 (σ key 0).2 (st.own s) w3;refine wI hg (by rw[z0];exact hE) ?_;rw[aG];have:=hk σ (.int kd n) (.int kd n) _ _ g5 rfl (hr.Jl g1 trivial (.bx cq) trivial (λ h=>by cases h))
   simp only[A7.c9,JB g3]at this;cases d<;>exact this
  ·exact h2.elim
theorem Ws (hr:RX σ tm M st) {g:Nat} {w:Bool} {b:Bool} (e:tg tm g = .bool b):FJ st (some (g,w))=some (b == w):=by
 rcases hr.tm g with h|h
 ·rw[e]at h;cases h
 ·rw[e]at h
  simp only[FJ,h,HG]
theorem Wt (hr:RX σ tm M st) {g:Nat} {w:Bool} (e:tg tm g = .g8 []):FJ st (some (g,w))=some false:=by
 rcases hr.tm g with h|h
 ·rw[e]at h;cases h
 ·rw[e]at h
  simp only[FJ,h,I5,List.map_nil]
theorem gW {key:Nat} : ∀ (tm:Tm) (j:Nat),tg (Ac key tm) j = .any\/tg (Ac key tm) j=tg tm j
 | [],_=>Or.inl rfl
 | (i,v)::r,j=>by
  simp only[Ac];cases hc:QG key v<;>cases hb:Nat.beq j i;all_goals simp only[cond_true,cond_false,tg,hb]
  ·exact gW r j
  ·exact Or.inr trivial
  ·exact gW r j
  ·exact Or.inl trivial
theorem AgI {v:AV} {K:Tm->Prop} (h:xk v tm K) : ∃ w9,(∀ j,tg w9 j = .any\/tg w9 j=tg tm j)/\K w9:=by
 unfold xk at h;split at h
 ·rw[VD]at h
  exact ⟨_,λ j=>gW _ j,h⟩
 ·exact ⟨_,λ j=>Or.inr rfl,h⟩
theorem jE {k:List It} {Q:Tm->Mem->Prop} : ∀ {l:List AI} {K:Tm->Mem->Prop} {tm:Tm} {M:Mem},XO L l K tm M->(∀ w9 M',K w9 M'->AA L k w9 M' Q)->iF L l k tm M Q
 | [],K,tm,M,h,hk=>λ σ st hr=>wJ.2 (hk tm M h σ st hr)
 | o::l,K,tm,M,h,hk=>by
  intro σ st hr;have h:XI L o (XO L l) K tm M:=h;have ih : ∀ w9 M',XO L l K w9 M'->iF L l k w9 M' Q:=λ w9 M' h'=>jE h' hk
  have some_ : ∀ (d:Nat) (op:DR) (g:Option (Nat × Bool)) (c4:List Nat),FJ st g=some true->XE L tm M c4 (λ v M=>XO L l K ((d,v)::tm) M) op->AO L (⟨some d,op,g,c4⟩::l) k st (SQ Q):=by
   intro d op g c4 hg hx;refine Z8 hr hx hg ?_;intro σ' v v' M' l6 h1 h2 h3;exact ih _ _ h1 σ' _ (h3.put d h2)
  have yv : ∀ (d:Nat) (u:AV) (op:DR) (c4:List Nat),XE L tm M c4 (λ v M=>xk u tm λ tm=>XO L l K ((d,v)::tm) M) op->AO L (⟨some d,op,none,c4⟩::l) k st (SQ Q):=by
   intro d u op c4 hx;refine Z8 hr hx rfl ?_;intro σ' v v' M' l6 h1 h2 h3;obtain ⟨w9,g1,g2⟩:=AgI h1;exact ih _ _ g2 σ' _ ((show RX σ' w9 M' ⟨st.tm,l6⟩ from ⟨λ j=>(g1 j).elim Or.inl λ e=>by rw[e];exact h3.tm j,h3.sat⟩).put d h2)
  have none_ : ∀ (op:DR) (g:Option (Nat × Bool)) (c4:List Nat),FJ st g=some true->XE L tm M c4 (λ_ M=>XO L l K tm M) op->AO L (⟨none,op,g,c4⟩::l) k st (SQ Q):=by
   intro op g c4 hg hx;refine Z8 hr hx hg ?_;intro σ' v v' M' l6 h1 h2 h3;exact ih _ _ h1 σ' _ h3
  have vn : ∀ (d:Option Nat) (op:DR) (g:Option (Nat × Bool)) (c4:List Nat),FJ st g=some false->(match d with|some d=>XO L l K ((d,.g8 [])::tm) M|none=>XO L l K tm M)->AO L (⟨d,op,g,c4⟩::l) k st (SQ Q):=by
   intro d op g c4 hg hx;rw[wK hg];cases d with
   | none=>exact ih _ _ hx σ _ hr
   | some d=>exact ih _ _ hx σ _ (hr.put d rfl)
  obtain ⟨d,op,g,c4⟩:=o;cases g with
  | none =>
   cases d with
   | none=>exact none_ op none c4 rfl h
   | some d =>
    cases op with
    | app s z b x y=>exact yv d (ex tm x) (.app s z b x y) c4 h
    | _=>exact some_ d _ none c4 rfl h
  | some gw =>
   obtain ⟨g,w⟩:=gw;have h:(match tg tm g with
    | .bool b=>fB (b == w) λ c=>match c,d with
     | true,some d=>XE L tm M c4 (λ v M=>XO L l K ((d,v)::tm) M) op
     | true,none=>XE L tm M c4 (λ_ M=>XO L l K tm M) op
     | false,some d=>XO L l K ((d,.g8 [])::tm) M
     | false,none=>XO L l K tm M
    | .g8 []=>match d with
     | some d=>XO L l K ((d,.g8 [])::tm) M
     | none=>XO L l K tm M
    | _=>False):=by cases d<;>cases op<;>exact h
   split at h
   ·rename_i b e
    rw[QL]at h;have hg:=Ws hr (w:=w) e;cases hb:(b == w)<;>rw[hb]at h hg
    ·exact vn d op _ c4 hg (by cases d<;>exact h)
    ·cases d with
     | none=>exact none_ op _ c4 hg h
     | some d=>exact some_ d op _ c4 hg h
   ·rename_i e
    exact vn d op _ c4 (Wt hr e) (by cases d<;>exact h)
   ·exact h.elim
theorem jD {Q:Tm->Mem->Prop} : ∀ {n:Nat} {k:List It} {tm:Tm} {M:Mem},XK L Q n k tm M->AA L k tm M Q
 | 0,k,tm,M,h=>h
 | n+1,[],tm,M,h=>λ σ st hr=>vV.2 ⟨σ,tm,M,hr,h⟩
 | n+1,it::k,tm,M,h=>by
  have h:XS L Q (XK L Q n) (it::k) tm M:=h;have ih : ∀ k tm M,XK L Q n k tm M->AA L k tm M Q:=λ k tm M h=>jD h
  intro σ st hr;cases it with
  | c9 id=>exact vN.2 (ih _ _ _ h σ st hr)
  | jx ts ss =>
   simp only[XS,So,VD]at h;cases ss with
   | cons s r=>exact h.elim
   | nil =>
    refine vR.2 (ih _ _ _ h σ _ ⟨λ j => ?_,hr.sat⟩);rw[WI,T7,jP,aK,Bool.false_or];cases hc:ts.contains j
    ·simp only[Bool.false_eq_true,if_false,cond_false]
     exact hr.tm j
    ·exact Or.inl rfl
  | lp c=>exact h σ st hr
  | code c =>
   cases c with
   | skip=>exact wA.2 (ih _ _ _ h σ st hr)
   | ops l d=>exact vW.2 (jE h (λ w9 M' h'=>ih _ _ _ h') σ st hr)
   | dr c ts ss=>exact vQ.2 (ih _ _ _ h σ st hr)
   | scope c=>exact vY.2 (ih _ _ _ h σ st hr)
   | seq a b=>exact vZ.2 (ih _ _ _ h σ st hr)
   | cond x a b =>
    simp only[XS]at h;split at h
    ·rename_i b' e
     rw[QL]at h;rw[vP (hr.ev e (by intro e;cases e))];cases b'
     ·simpa using ih _ _ _ h σ st hr
     ·simpa using ih _ _ _ h σ st hr
    ·exact h.elim
   | block id c=>exact vO.2 (ih _ _ _ h σ st hr)
   | loop c=>exact vT.2 (iE.1 (h σ st hr))
   | exit id =>
    simp only[XS]at h;split at h
    ·rename_i k' e
     exact (vS e).2 (ih _ _ _ h σ st hr)
    ·exact h.elim
   | ret=>exact vX.2 ⟨σ,tm,M,hr,h⟩
theorem Afq (hr:RX σ tm M st) {r:JN} {K:AV->Prop} (h:V5 tm M r K) : ∃ v,E6 st r=some (A8 σ v)/\K v/\A8 σ v=BK σ v:=by
 cases r with
 | tmp t =>
  simp only[V5]at h;obtain ⟨h1,h2,h3⟩:=oE (σ:=σ) h;refine ⟨_,?_,h3,h2⟩;rcases hr.tm t with e|e
  ·exact absurd e h1
  ·simp only[E6,e]
   cases hv:tg tm t<;>rw[hv]at h h1<;>first|rfl|exact (h:False).elim
 | cell t agg n =>
  simp only[V5]at h;split at h
  ·rename_i key i j e
   split at h
   ·rename_i s cs hm
    cases hi:Nat.beq i 0<;>simp only[hi,cond_true,cond_false]at h;obtain rfl:=BJ.1 hi;split at h
    ·rename_i ds hp
     rw[HN]at h;rcases hr.tm t with e'|e'
     ·rw[e]at e';cases e'
     ·have hs:=hr.sat.site _ _ _ hm
      have w3:=hr.sat.c9 _ _ _ (EI hm);rw[hs]at w3;have flat : ∀ v,KL agg (ds.map (A6 σ))=some (A8 σ v)->E6 st (.cell t agg n)=some (A8 σ v):=by
       intro v hv;simp only[E6,e',e,EA,AH.ma,AH.get,hs,w3,A7.c9,List.getElem?_cons_zero,YP hp,hv]
      cases agg
      ·simp only[my]at h
       split at h
       ·rename_i c
        obtain ⟨_,h1,h2⟩:=oF (σ:=σ) h;refine ⟨c,flat c (by rw[h1];rfl),h2,?_⟩;rw[h1];cases c<;>first|rfl|exact (h:False).elim
       ·exact h.elim
      ·exact ⟨.agg ds,flat _ rfl,h,rfl⟩
    ·exact h.elim
   ·exact h.elim
  ·exact h.elim
theorem fO (hr:RX σ tm M st) : ∀ {l:List JN} {K:List AV->Prop},YU tm M l K -> ∃ vs,l.mapM (E6 st)=some (vs.map (A8 σ))/\K vs/\vs.map (A8 σ)=vs.map (BK σ)
 | [],K,h=>⟨[],rfl,h,rfl⟩
 | r::l,K,h=>by
  obtain ⟨v,h1,h2,h3⟩:=Afq hr (show V5 tm M r λ v=>YU tm M l λ vs=>K (v::vs) from h);obtain ⟨vs,h4,h5,h6⟩:=fO hr h2;exact ⟨v::vs,by rw[List.mapM_cons,h1,h4];rfl,h5,by rw[List.map_cons,List.map_cons,h3,h6]⟩
theorem tG (hs:IG σ st.own M) {q:Bool} : ∀ {l:List AV} {K:List AV->Prop},gF q M l K -> ∃ l',(l.map (A8 σ)).mapM (CY st.own q)=some l'/\K l' /\ ∀ v∈l,A8 σ v=BK σ v
 | [],K,h=>⟨[],rfl,h,λ v hv=>by cases hv⟩
 | v::r,K,h=>by
  obtain ⟨v',h1,h2,_,h0⟩:=Y7 hs (show P3 q M [] v λ v'=>gF q M r λ r'=>K (v'::r') from h);obtain ⟨l',h3,h4,h5⟩:=tG hs h2;refine ⟨v'::l',?_,h4,λ u hu => ?_⟩
  ·rw[List.map_cons,List.mapM_cons,show CY st.own q (A8 σ v)=some v' from h1,h3];rfl
  ·rcases List.mem_cons.1 hu with rfl|hu
   ·exact h0
   ·exact h5 u hu
theorem AfY {own:AH} {q:Bool} {v v':AV} (h:CY own q v=some v'):QZ own q v=some v':=by
 cases v with
 | g8 vs=>simp [CY,snap]at h
 | _=>exact h
theorem Zk {f:AV->Option AV} {x y:AV} {r l':List AV} (h:(x::y::r).mapM f=some l') : ∃ a b c,l'=a::b::c:=by
 rw[List.mapM_cons,List.mapM_cons]at h;cases hx:f x with
 | none=>rw[hx]at h;cases h
 | some a =>
  cases hy:f y with
  | none=>rw[hx,hy]at h;cases h
  | some b =>
   cases hr:r.mapM f with
   | none=>rw[hx,hy,hr]at h;cases h
   | some c =>
    rw[hx,hy,hr]at h;exact ⟨a,b,c,(Option.some.inj h).symm⟩
theorem iX {fn:AFn} {r:AV} (hr:RX σ tm M st) (h:QC fn r tm M):UM fn r st:=by
 unfold QC at h;obtain ⟨vs,h1,h2,h3⟩:=fO hr h;obtain ⟨l',h4,h5,h6⟩:=tG hr.sat h2;unfold UM;rw[h1,Option.map_some,Option.bind_some];match vs,l',h4,h5 with
 | [],l',h4,h5 =>
  obtain rfl:=Option.some.inj h4;obtain ⟨e,hc⟩:=h5;exact ⟨by rw[<-e];rfl,hc⟩
 | [v],l',h4,h5 =>
  rw[List.map_cons,List.map_nil,List.mapM_cons]at h4;cases hv:CY st.own false (A8 σ v) with
  | none=>rw[hv]at h4;cases h4
  | some v' =>
   rw[hv]at h4;obtain rfl:=Option.some.inj h4;obtain ⟨e,hc⟩:=h5;exact ⟨by rw[<-e];exact AfY hv,hc⟩
 | v::u::w,l',h4,h5 =>
  obtain ⟨a,b,c,rfl⟩:=Zk (show List.mapM (CY st.own false) (A8 σ v::A8 σ u::w.map (A8 σ))=some l' from h4);obtain ⟨e,hc⟩:=h5;refine ⟨?_,hc⟩;rw[<-e];have h4:List.mapM (CY st.own false) (A8 σ v::A8 σ u::w.map (A8 σ))=some (a::b::c):=h4;show Option.map AV.g8 (List.mapM (CY st.own false) (A8 σ v::A8 σ u::w.map (A8 σ)))=_;rw[h4];rfl
def QH:AV->Bool
 | .agg cs=>D5 cs
 | v=>oo v
def KE:List AV->Bool
 | []=>true
 | v::r=>bif QH v then KE r else false
theorem XM {v:AV} (h:QH v=true):A8 σ v=v:=by
 cases v with
 | agg cs=>simp only[QH]at h;simp only[A8,BK,JB h]
 | _=>first|rfl|cases h
theorem UZ {σ:FG} : ∀ {vs:List AV} {i:Nat},KE vs=true -> ∀ j,g6 (CR i vs) j=A8 σ (g6 (CR i vs) j)
 | [],_,_,_=>rfl
 | v::r,i,h,j=>by
  simp only[KE]at h;cases hv:QH v<;>simp only[hv,cond_true,cond_false]at h
  ·cases h
  ·simp only[Vr,WK]
   split
   ·exact (XM hv).symm
   ·exact UZ h j
theorem FX.x {f:Nat} {fn:AFn} {vs:List AV} {r:AV} (hL:L f=some fn) (hp:Nat.beq vs.length fn.x5=true) (hd:KE vs=true) (h:AA L [.code fn.body] (CR 0 vs) [] (QC fn r)):FX L f vs r:=by
 refine FX.fwd hL (BJ.1 hp) (vU (h (λ_ _=>(0,0)) ⟨CR 0 vs,AH.emp⟩ ⟨λ j=>Or.inr ?_,?_⟩) ?_)
 ·rw[J5];exact UZ hd j
 ·exact ⟨(λ_ _ _ e=>by cases e),(λ_ _ _ e=>by simp [c5,c7]at e),(λ_ _ _ e=>by simp [c5,c7]at e),(λ_ _ _ _ _ _ e=>by simp [c5,c7]at e),(λ_ _ _ e=>by simp [c5,c7]at e)⟩
 ·rintro s ⟨σ,tm,M,hr,hq⟩
  exact iX hr hq
theorem Ev.x {f:Nat} {fn:AFn} {vs:List AV} {r:AV} (hL:L f=some fn) (hp:Nat.beq vs.length fn.x5=true) (hd:KE vs=true) (h:AA L [.code fn.body] (CR 0 vs) [] (QC fn r)) (hs:fn.mc=false:=by rfl):Ev L f vs r:=(FX.x hL hp hd h).ev hL hs
def F6:List (Nat × Nat)->Nat->Nat
 | [],k=>k
 | (a,b)::r,k=>bif Nat.beq k a then b else F6 r k
def YX (τ:List (Nat × Nat)):AV->AV
 | .row k t z o n => .row (F6 τ k) t z o n
 | .ptr k t i j => .ptr (F6 τ k) t i j
 | v=>v
def QY (τ:List (Nat × Nat)):List AV->List AV
 | []=>[]
 | v::r=>YX τ v::QY τ r
def T3 (τ:List (Nat × Nat)):AV->AV
 | .agg cs => .agg (QY τ cs)
 | .fn p f g cs => .fn p f g (QY τ cs)
 | v=>YX τ v
def YZ (τ:List (Nat × Nat)):List AV->List AV
 | []=>[]
 | v::r=>T3 τ v::YZ τ r
def YY (τ:List (Nat × Nat)):AV->AV
 | .g8 cs => .g8 (YZ τ cs)
 | v=>T3 τ v
def Y0 (τ:List (Nat × Nat)):List (List AV)->List (List AV)
 | []=>[]
 | v::r=>QY τ v::Y0 τ r
def J1 (τ:List (Nat × Nat)):A7->A7
 | .bx cs => .bx (QY τ cs)
 | .rw z es => .rw z es
 | .bs z es => .bs z (Y0 τ es)
 | .mx rows => .mx rows
 | .hx i v rows => .hx i v rows
 | .vw w rows => .vw w rows
variable {τ:List (Nat × Nat)}
theorem V6 : ∀ l:List AV,QY τ l=l.map (YX τ)
 | []=>rfl
 | v::r=>by rw[QY,V6 r];rfl
theorem sG : ∀ l:List AV,YZ τ l=l.map (T3 τ)
 | []=>rfl
 | v::r=>by rw[YZ,sG r];rfl
theorem ZD (v:AV):A6 (λ k t=>σ (F6 τ k) t) v=A6 σ (YX τ v):=by cases v<;>rfl
theorem gR (v:AV):BK (λ k t=>σ (F6 τ k) t) v=BK σ (T3 τ v):=by
 cases v with
 | agg cs=>simp only[BK,T3,V6,List.map_map];exact congrArg AV.agg (List.map_congr_left λ v _=>ZD v)
 | fn p f g cs=>simp only[BK,T3,V6,List.map_map];exact congrArg (AV.fn p f g) (List.map_congr_left λ v _=>ZD v)
 | _=>rfl
theorem Zv (v:AV):A8 (λ k t=>σ (F6 τ k) t) v=A8 σ (YY τ v):=by
 cases v with
 | g8 cs=>simp only[A8,YY,sG,List.map_map];exact congrArg AV.g8 (List.map_congr_left λ v _=>gR v)
 | agg cs=>exact gR (.agg cs)
 | fn p f g cs=>exact gR (.fn p f g cs)
 | _=>rfl
theorem sH : ∀ l:List (List AV),Y0 τ l=l.map (QY τ)
 | []=>rfl
 | v::r=>by rw[Y0,sH r];rfl
theorem VS {k:Nat} : ∀ (rows:List (Option (Nat × List (List AV)))) (i:Nat),B4 (λ k t=>σ (F6 τ k) t) k i rows=B4 σ (F6 τ k) i rows
 | [],i=>rfl
 | none::r,i=>by rw[B4,B4,VS r]
 | some (z,es)::r,i=>by rw[B4,B4,VS r]
theorem zX (c:A7) (k:Nat):c.c9 (λ k t=>σ (F6 τ k) t) k=(J1 τ c).c9 σ (F6 τ k):=by
 cases c with
 | bx cs =>
  simp only[A7.c9,J1,V6,List.length_map,List.map_map];rw[List.map_congr_left λ v _=>ZD v];rfl
 | rw z es=>rfl
 | bs z es =>
  simp only[A7.c9,J1,sH,List.map_map];congr 1;refine List.map_congr_left λ cs _ => ?_
  simp only[Function.comp,V6,List.map_map];exact List.map_congr_left λ v _=>ZD v
 | mx rows=>simp only[A7.c9,J1,VS]
 | hx i v rows=>simp only[A7.c9,J1,VS]
 | vw w rows=>simp only[A7.c9,J1,VS]
def qw (k s:Nat) (c:A7):Mem->Mem
 | []=>[(k,s,c)]
 | (j,s',c')::r=>bif Nat.beq k j then (k,s,c)::r else (j,s',c')::qw k s c r
def nu:Mem->Mem
 | []=>[]
 | (k,s,c)::r=>qw k s c (nu r)
def VR:Mem->(Mem->Prop)->Prop
 | [],K=>K []
 | (k,s,c)::r,K=>VR r λ r'=>fM (qw k s c r') K
theorem dV : ∀ (M:Mem) (K:Mem->Prop),VR M K=K (nu M)
 | [],_=>rfl
 | (k,s,c)::r,K=>by rw[VR,dV r,OW];rfl
theorem qM (k s:Nat) (c:A7) (j:Nat) : ∀ M:Mem,c7 (qw k s c M) j=bif Nat.beq j k then some (s,c) else c7 M j
 | []=>rfl
 | (i,s',c')::r=>by
  simp only[qw];cases hk:Nat.beq k i
  ·simp only[cond_false,c7,qM k s c j r]
   cases hj:Nat.beq j i<;>cases hjk:Nat.beq j k<;>simp only[cond_true,cond_false];exact absurd ((BJ.1 hjk).symm.trans (BJ.1 hj)) (FH.1 hk)
  ·obtain rfl:=BJ.1 hk
   simp only[cond_true,c7];cases Nat.beq j k<;>rfl
theorem TP (j:Nat) : ∀ M:Mem,c7 (nu M) j=c7 M j
 | []=>rfl
 | (k,s,c)::r=>by simp only[nu,qM,TP j r,c7]
theorem YD (k t:Nat):c5 (nu M) k t=c5 M k t:=by simp only[c5,TP]
def ud (τ:List (Nat × Nat)) (M:Mem):List (Nat × Nat × A7)->List (Option (Nat × A7))
 | []=>[]
 | (k,_,_)::r=>c7 M (F6 τ k)::ud τ M r
def ue (τ:List (Nat × Nat)):List (Nat × Nat × A7)->List (Option (Nat × A7))
 | []=>[]
 | (_,s,c)::r=>some (s,J1 τ c)::ue τ r
def Fe (tm:Tm):Tm->List AV
 | []=>[]
 | (j,_)::r=>tg tm j::Fe tm r
def Ff (τ:List (Nat × Nat)):Tm->List AV
 | []=>[]
 | (_,v)::r=>YY τ v::Ff τ r
def YH:List Nat->Bool
 | []=>true
 | k::r=>bif JS k r then false else YH r
def keys (τ:List (Nat × Nat)):Mem->List Nat
 | []=>[]
 | (k,_,_)::r=>F6 τ k::keys τ r
theorem qL : ∀ {M':Mem} {M:Mem},ud τ M M'=ue τ M' -> ∀ k s c,c7 M' k=some (s,c)->c7 M (F6 τ k)=some (s,J1 τ c)
 | [],_,_,_,_,_,e=>by cases e
 | (i,s',c')::r,M,h,k,s,c,e=>by
  simp only[ud,ue,List.cons.injEq]at h;simp only[c7]at e;cases hb:Nat.beq k i<;>simp only[hb,cond_true,cond_false]at e
  ·exact qL h.2 k s c e
  ·simp only[Option.some.injEq,Prod.mk.injEq]at e
   obtain ⟨rfl,rfl⟩:=e;rw[BJ.1 hb];exact h.1
theorem dW : ∀ {M:Mem} {k s:Nat} {c:A7},c7 M k=some (s,c)->JS (F6 τ k) (keys τ M)=true
 | (i,s',c')::r,k,s,c,e=>by
  simp only[c7]at e;simp only[keys,JS];cases hb:Nat.beq k i<;>simp only[hb,cond_true,cond_false]at e
  ·rw[dW e];cases Nat.beq (F6 τ k) (F6 τ i)<;>rfl
  ·rw[BJ.1 hb];simp
theorem rD : ∀ {M:Mem},YH (keys τ M)=true -> ∀ {k k' s s':Nat} {c c':A7},c7 M k=some (s,c)->c7 M k'=some (s',c')->F6 τ k=F6 τ k'->k=k'
 | [],_,_,_,_,_,_,_,e,_,_=>by cases e
 | (i,s0,c0)::r,h,k,k',s,s',c,c',e,e',hk=>by
  simp only[keys,YH]at h;cases hm:JS (F6 τ i) (keys τ r)<;>simp only[hm,cond_true,cond_false]at h
  ·simp only[c7]at e e'
   cases hb:Nat.beq k i<;>cases k7:Nat.beq k' i<;>simp only[hb,k7,cond_true,cond_false]at e e'
   ·exact rD h e e' hk
   ·obtain rfl:=BJ.1 k7
    have:=dW (τ:=τ) e
    rw[hk,hm]at this;cases this
   ·obtain rfl:=BJ.1 hb
    have:=dW (τ:=τ) e'
    rw[<-hk,hm]at this;cases this
   ·exact (BJ.1 hb).trans (BJ.1 k7).symm
  ·cases h
theorem uN : ∀ {w9:Tm} {tm:Tm},Fe tm w9=Ff τ w9 -> ∀ j,tg w9 j = .any\/tg tm j=YY τ (tg w9 j)
 | [],_,_,_=>Or.inl rfl
 | (i,v)::r,tm,h,j=>by
  simp only[Fe,Ff,List.cons.injEq]at h;simp only[tg];cases hb:Nat.beq j i<;>simp only[cond_true,cond_false]
  ·exact uN h.2 j
  ·rw[BJ.1 hb];exact Or.inr h.1
def y9 (ts:List Nat) (tm:Tm):Tm:=match ts with
 | []=>tm
 | t::ts=>se (mask 0 (t::ts)) tm
def PC (τ:List (Nat × Nat)) (tm:Tm) (M:Mem) (w9:Tm) (M':Mem):Prop :=
 fT (se 0 w9) λ l=>VR M' λ m=>Fe tm l=Ff τ l/\ud τ M m=ue τ m/\YH (keys τ m)=true
theorem BL {k:List It} {w9:Tm} {M':Mem} {Q:Tm->Mem->Prop} (τ:List (Nat × Nat)) (he:PC τ tm M w9 M') (h:AA L k w9 M' Q):AA L k tm M Q:=by
 unfold PC at he;rw[VD,dV]at he;obtain ⟨ht,hm,hn⟩:=he;intro σ st hr;have hg : ∀ k s c,c7 M' k=some (s,c)->c7 M (F6 τ k)=some (s,J1 τ c):=λ k s c e=>qL hm k s c (by rw[TP];exact e)
 have Br : ∀ k t c,c5 M' k t=some c->c5 M (F6 τ k) t=some (J1 τ c):=by
  intro k t c e;obtain ⟨s,c0,g1,g2,g3⟩:=JG e;have:=hg k s c0 g1
  cases t with
  | zero=>rw[g2 rfl];exact EI this
  | succ i =>
   obtain ⟨rows,z,es,(rfl|⟨a,v,rfl⟩)|⟨w,rfl⟩,hr,rfl⟩:=g3 i rfl
   ·simp [c5,this,J1,hr]
   ·simp [c5,this,J1,hr]
   ·simp [c5,this,J1,hr]
 refine h (λ k t=>σ (F6 τ k) t) st ⟨λ j => ?_,⟨?_,?_,?_,?_,?_⟩⟩
 ·have:=uN ht j
  rw[WI,aK,cond_false]at this;rcases this with e|e
  ·exact Or.inl e
  ·rcases hr.tm j with e'|e'
   ·left
    rw[e']at e;cases hv:tg w9 j<;>rw[hv]at e<;>first|rfl|cases e
   ·right
    rw[e',e,Zv]
 ·intro k s c e;exact hr.sat.site _ _ _ (hg k s c e)
 ·intro k t c e;rw[zX];exact hr.sat.c9 _ _ _ (Br k t c e)
 ·intro k t c e;exact hr.sat.old _ _ _ (Br k t c e)
 ·intro k t k' t' c c' e e' hk
  obtain ⟨q1,q2⟩:=hr.sat.inj _ _ _ _ _ _ (Br _ _ _ e) (Br _ _ _ e') hk;obtain ⟨s,c0,g,_⟩:=JG e;obtain ⟨s',c0',g',_⟩:=JG e';exact ⟨rD hn (by rw[TP];exact g) (by rw[TP];exact g') q1,q2⟩
 ·intro k t c e hw
  exact hr.sat.low _ _ _ (Br k t c e) (by cases c<;>exact hw)
theorem BO {k:List It} {w9:Tm} {M':Mem} {Q:Tm->Mem->Prop} (τ:List (Nat × Nat)) (h:AA L k w9 M' Q) (he:PC τ tm M w9 M':=by (conv=>whnf);exact ⟨rfl,rfl,rfl⟩):AA L k tm M Q:=BL τ he h
theorem vL {k:List It} {Q:Tm->Mem->Prop} (h:AA L k (se 0 tm) (nu M) Q):AA L k tm M Q:=by
 intro σ st hr;refine h σ st ⟨λ j => ?_,⟨?_,?_,?_,?_,?_⟩⟩
 ·rw[WI,aK,cond_false];exact hr.tm j
 ·intro k s c e;rw[TP]at e;exact hr.sat.site _ _ _ e
 ·intro k t c e;rw[YD]at e;exact hr.sat.c9 _ _ _ e
 ·intro k t c e;rw[YD]at e;exact hr.sat.old _ _ _ e
 ·intro k t k' t' c c' e e' hk
  rw[YD]at e e';exact hr.sat.inj _ _ _ _ _ _ e e' hk
 ·intro k t c e hw;rw[YD]at e;exact hr.sat.low _ _ _ e hw
theorem FB {k:List It} {c:BD} {Q:Tm->Mem->Prop} (h:AA L (.code c :: .lp c::k) tm M Q):AA L (.lp c::k) tm M Q:=λ σ st hr=>iE.2 (h σ st hr)
theorem UE {α:Type} {k:List It} {c:BD} {Q:Tm->Mem->Prop} (m:α->Nat) (P:α->Prop) (vs:α->Tm) (Ms:α->Mem) (ts:List Nat) (τ:List (Nat × Nat)) (a:α)
  (he:PC τ tm M (vs a++y9 ts tm) (Ms a++M)) (hp:P a)
  (step : ∀ a,P a->(∀ a',m a'<m a->P a'->AA L (.lp c::k) (vs a'++y9 ts tm) (Ms a'++M) Q)->AA L (.code c :: .lp c::k) (vs a++y9 ts tm) (Ms a++M) Q):AA L (.lp c::k) tm M Q:=by
 have key : ∀ n a,m a<n->P a->AA L (.lp c::k) (vs a++y9 ts tm) (Ms a++M) Q:=by
  intro n;induction n with
  | zero=>intro a h;omega
  | succ n ih =>
   intro a ha hp;exact FB (step a hp λ a' h1 h2=>ih a' (by omega) h2)
 exact BL τ he (key (m a+1) a (by omega) hp)
end
end Go.b7
namespace Go.b7
section
variable {α:Type} {enc:α->List AV} {l:List α} {L:Lib}
theorem AG {p q A B:Prop} (h1:p->A) (h2:q->B):AF p q A B:=⟨h1,h2⟩
theorem A3 {p A:Prop} (h1:p) (h2:A):AM p A:=⟨h1,h2⟩
section
variable {K:AV->Prop} {a b:Int} {k k':IntKind} {op:BinOp}
theorem WS {v:AV} (h:DB op k a k' b=some v) (hk:K v):AC op k a k' b K:=⟨v,h,hk⟩
theorem AR (hr : -9223372036854775808<=a+b/\a+b<=9223372036854775807) (hk:K (.int .i64 (a+b))):AC .add .i64 a .i64 b K:=⟨_,by simp only[DB,if_true];rw[IntWalk.i64_in _ hr],hk⟩
theorem BM (hr : -9223372036854775808<=a-b/\a-b<=9223372036854775807) (hk:K (.int .i64 (a-b))):AC .sub .i64 a .i64 b K:=⟨_,by simp only[DB,if_true];rw[IntWalk.i64_in _ hr],hk⟩
theorem FY (hr : -9223372036854775808<=a*b/\a*b<=9223372036854775807) (hk:K (.int .i64 (a*b))):AC .mul .i64 a .i64 b K:=⟨_,by simp only[DB,if_true];rw[IntWalk.i64_in _ hr],hk⟩
theorem FN (h:0<=b/\b<=62) (hk:1<=pw b->pw b<=4611686018427387904->K (.int .i64 (pw b))):AC .shl .i64 1 k' b K:=⟨_,AfO h,hk (GF b) (YT h.2)⟩
theorem QA (hb:0<b) (h1:(0<=a\/a%b=0)->0<=a%b->a%b<b->K (.int .i64 (a%b))) (h2:a<0->a%b≠0->0<=a%b->a%b<b->K (.int .i64 (a%b-b))):AC .rem .i64 a .i64 b K:=by
 have h5:0<=a%b:=Int.emod_nonneg _ (by omega);have h6:a%b<b:=Int.emod_lt_of_pos _ hb;have e:DB .rem .i64 a .i64 b=some (.int .i64 (a.tmod b)):=by simp only[DB];rw[if_pos ⟨trivial,by omega⟩]
 by_cases hc:0<=a\/a%b=0
 ·rw[uO hb,if_pos hc]at e
  exact ⟨_,e,h1 hc h5 h6⟩
 ·rw[uO hb,if_neg hc]at e
  exact ⟨_,e,h2 (by omega) (by omega) h5 h6⟩
theorem KA (hb:0<b) (ha : -9223372036854775808<=a/\a<=9223372036854775807) (h1:(0<=a\/a%b=0)->K (.int .i64 (a/b))) (h2:a<0->a%b≠0->K (.int .i64 (a/b+1))):AC .quo .i64 a .i64 b K:=by
 have hr:=Qw (m:=b) (by omega) ha;have e:DB .quo .i64 a .i64 b=some (.int .i64 (IntKind.i64.wrap (a.tdiv b))):=by simp only[DB];rw[if_pos ⟨trivial,by omega⟩]
 by_cases hc:0<=a\/a%b=0
 ·rw[uK hb,if_pos hc,IntWalk.i64_in _ hr]at e
  exact ⟨_,e,h1 hc⟩
 ·have Ai0:a/b<0:=Int.ediv_neg_of_neg_of_pos (by omega) hb
  rw[uK hb,if_neg hc,IntWalk.i64_in _ (by omega)]at e;exact ⟨_,e,h2 (by omega) (by omega)⟩
theorem xK (h:0<=b/\b<=63) (hk:K (.int .i64 (a/pw b))):AC .shr .i64 a k' b K:=⟨_,AfP h,hk⟩
theorem iU (hk:K (.int k (k.wrap (a+b)))):AC .add k a k b K:=⟨_,by simp only[DB,if_true],hk⟩
theorem Z4 (hk:K (.int k (k.wrap (a-b)))):AC .sub k a k b K:=⟨_,by simp only[DB,if_true],hk⟩
theorem BT.neg (hr : -9223372036854775808 <= -a /\ -a<=9223372036854775807) (hk:K (.int .i64 (-a))):BT .neg .i64 a K:=⟨_,by simp only[Q1];rw[show (0:Int)-a = -a by omega,IntWalk.i64_in _ hr],hk⟩
theorem BT.go {op:UnOp} {v:AV} (h:Q1 op (.int k a)=some v) (hk:K v):BT op k a K:=⟨v,h,hk⟩
end
theorem UG {k:IntKind} {n:Int} {K:Int->Prop} (e:k.wrap n=n) (h:K n):A0 k n K:=⟨by rw[e];exact h⟩
theorem B7 {n:Int} {K:Int->Prop} (hr:0<=n/\n<=18446744073709551615) (h:K n):A0 .u64 n K:=UG (IntWalk.u64_in _ hr) h
theorem Q3 {n:Int} {K:Int->Prop} (hr : -9223372036854775808<=n/\n<=9223372036854775807) (h:K n):A0 .i64 n K:=UG (IntWalk.i64_in _ hr) h
theorem BC {a:Int} {z:Nat} {K:List AV->Prop} {e:α} (he:l[a.toNat]? = some e) (h0:0<=a) (hz:(enc e).length=z) (h:K (enc e)):AQ (l.map enc) a z K:=⟨h0,enc e,by simp [he],hz,h⟩
theorem Z5 {a:Int} {z:Nat} {K:List AV->Prop} (h0:0<=a/\a<l.length) (hz : ∀ e,(enc e).length=z) (h : ∀ e,l[a.toNat]? = some e->K (enc e)):AQ (l.map enc) a z K:=by
 have he:l[a.toNat]? = some (l[a.toNat]'(by omega)):=zE _;exact BC he h0.1 (hz _) (h _ he)
theorem PH {n z:Nat} {K:List AV->Prop} (hn:n<l.length) (hz : ∀ e,(enc e).length=z) (h : ∀ e,l[n]? = some e->K (enc e)):AQ (l.map enc) (n:Int) z K :=
 Z5 ⟨by omega,by omega⟩ hz h
theorem ZY {i j n:Nat} {K:List AV->Prop} {f:α->List AV} (hi:i<l.length) (hp : ∀ e,part (enc e) j n=some (f e)) (h : ∀ e,l[i]? = some e->K (f e)):A5 (l.map enc) (0+((i:Int)).toNat) j n K:=by
 have he:l[i]? = some l[i]:=zE _;rw[Nat.zero_add,Int.toNat_natCast];exact ⟨enc l[i],f l[i],by simp [he],hp _,h _ he⟩
theorem iN {i:Int} {j n:Nat} {K:List AV->Prop} {f:α->List AV} (hi:0<=i/\i<l.length) (hp : ∀ e,part (enc e) j n=some (f e)) (h : ∀ e,l[i.toNat]? = some e->K (f e)):A5 (l.map enc) (0+i.toNat) j n K:=by
 have hl:i.toNat<l.length:=by omega
 have he:l[i.toNat]? = some l[i.toNat]:=zE _;rw[Nat.zero_add];exact ⟨enc l[i.toNat],f l[i.toNat],by rw[List.getElem?_map,he];rfl,hp _,h _ he⟩
theorem JA {i:Nat} {vs:List AV} {K:List (List AV)->Prop} (e:α) (he:vs=enc e) (hz : ∀ x,(enc x).length=vs.length) (hi:i<l.length) (h:K ((l.set i e).map enc)):AZ (l.map enc) (0+((i:Int)).toNat) 0 vs K:=by
 rw[Nat.zero_add,Int.toNat_natCast];refine ⟨enc l[i],by simp [zE hi],by rw[hz];omega,?_⟩;rw[show splice (enc l[i]) 0 vs=vs by simp [splice,<-hz l[i]],he,<-List.map_set];exact h
theorem ZX {i j n:Nat} {K:List AV->Prop} {e:α} {ds:List AV} (he:l[i]? = some e) (hp:part (enc e) j n=some ds) (h:K ds):A5 (l.map enc) i j n K:=⟨enc e,ds,by simp [he],hp,h⟩
theorem AfZ {cs vs:List AV} (h:cs.length=vs.length):splice cs 0 vs=vs:=by
 simp [splice,<-h]
theorem xT {i:Nat} {vs:List AV} {K:List (List AV)->Prop} (e:α) (he:vs=enc e) (hz : ∀ x,(enc x).length=vs.length) (hi:i<l.length) (h:K ((l.set i e).map enc)):AZ (l.map enc) i 0 vs K:=by
 refine ⟨enc l[i],by simp [zE hi],by rw[hz];omega,?_⟩;rw[AfZ (hz _),he,<-List.map_set];exact h
theorem DP {a b:Int} {bytes:Nat} {zero:List AV} {K:List (List AV)->Nat->Prop} (x:α) (n:Nat) (hx:zero=enc x) (hn:a=n) (hr:a<=b/\b*bytes<=140737488355328/\b<=9223372036854775807) (h:K ((List.replicate n x).map enc) n):BG a b bytes zero K:=by
 subst hn hx;refine ⟨⟨by omega,hr.1,by simpa [EZ] using hr.2.1,hr.2.2⟩,?_⟩;simpa using h
theorem AY {K:Nat->Prop} (h:K l.length):AX (l.map enc) K:=⟨by simpa using h⟩
theorem FV {len z bytes:Nat} {vs:List AV} {K:List (List AV)->Nat->Prop} (e:α) (he:vs=enc e) (hl:len=l.length) (hz:vs.length=z) (hr:(l.length+1)*bytes<=140737488355328) (ae:l.length+1<=9223372036854775807) (h:K ((l++[e]).map enc) (l++[e]).length):A9 (l.map enc) len [vs] z bytes K:=by
 subst hl;refine ⟨by simp,by simpa using hz,by simpa [EZ] using hr,by simpa using ae,?_⟩;rw[List.take_of_length_le (by simp)];simpa [he] using h
theorem ZP {len z bytes:Nat} {l':List α} {K:List (List AV)->Nat->Prop} (hl:len=l.length) (hz : ∀ x,(enc x).length=z) (hr:(l.length+l'.length)*bytes<=140737488355328) (ae:l.length+l'.length<=9223372036854775807) (h:K ((l++l').map enc) (l++l').length):A9 (l.map enc) len (l'.map enc) z bytes K:=by
 subst hl;refine ⟨by simp,by simp [hz],by simpa [EZ] using hr,by simpa using ae,?_⟩;rw[List.take_of_length_le (by simp)];simpa using h
theorem SU {z bytes:Nat} {vs:List AV} {K:List (List AV)->Nat->Prop} (e:α) (he:vs=enc e) (hz:vs.length=z) (hb:bytes<=140737488355328) (h:K ([e].map enc) 1):BS [vs] z bytes K :=
 ⟨by simpa using hz,by simpa [EZ] using hb,by simp,by simpa [he] using h⟩
theorem P7 {z bytes:Nat} {K:List (List AV)->Nat->Prop} (hz : ∀ x,(enc x).length=z) (hr:l.length*bytes<=140737488355328) (ae:l.length<=9223372036854775807) (h:K (l.map enc) l.length):BS (l.map enc) z bytes K :=
 ⟨by simp [hz],by simpa [EZ] using hr,by simpa using ae,by simpa using h⟩
theorem W0 {off len:Nat} {K:List (List AV)->Prop} (hl:off+len<=l.length) (h:K (((l.drop off).take len).map enc)):BH (l.map enc) off len K :=
 ⟨by simpa using hl,by rw[<-List.map_drop,<-List.map_take];exact h⟩
theorem VU : ∀ {e:List AV},FA e=true->L6 e=true/\e.map nl=e
 | [],_=>⟨rfl,rfl⟩
 | v::r,h=>by
  have hv:FA r=true:=by cases v<;>simp only[FA]at h<;>first|cases h|exact h
  obtain ⟨h1,h2⟩:=VU hv;cases v<;>simp only[FA]at h<;>first|cases h|exact ⟨h1,by rw[List.map_cons,h2];rfl⟩
theorem rG : ∀ {es:List (List AV)},(∀ e∈es,FA e=true)->es.map (λ e=>e.map nl)=es
 | [],_=>rfl
 | e::r,h=>by rw[List.map_cons,(VU (h e List.mem_cons_self)).2,rG λ x hx=>h x (List.mem_cons_of_mem _ hx)]
theorem UO {es:List (List AV)} {off len:Nat} {K:List (List AV)->Prop} (hl:off+len<=es.length) (hz : ∀ e∈es,FA e=true) (h:K ((es.drop off).take len)):AU es off len K :=
 ⟨hl,λ e he=>(VU (hz e he)).1,by rw[rG λ e he=>hz e (List.mem_of_mem_drop (List.mem_of_mem_take he))];exact h⟩
theorem C3 {off len:Nat} {K:List (List AV)->Prop} (hz : ∀ x,FA (enc x)=true) (ho:off=0) (hl:len=l.length) (h:K (l.map enc)):AU (l.map enc) off len K:=by
 subst hl ho;refine UO (by simp) (λ e he => ?_) (by rw[List.drop_zero,List.take_of_length_le (by simp)];exact h);obtain ⟨x,_,rfl⟩:=List.mem_map.1 he;exact hz x
theorem H1 {off len:Nat} {K:List (List AV)->Prop} (hz : ∀ x,FA (enc x)=true) (hl:off+len<=l.length) (h:K (((l.drop off).take len).map enc)):AU (l.map enc) off len K:=by
 refine UO (by simpa using hl) (λ e he => ?_) (by rw[<-List.map_drop,<-List.map_take];exact h);obtain ⟨x,_,rfl⟩:=List.mem_map.1 he;exact hz x
theorem EF {e:List AV} {K:List (List AV)->Prop} (h:K [e]):BH [e] 0 1 K:=⟨by simp,h⟩
theorem FF {e:List AV} {K:List (List AV)->Prop} (h0:FA e=true) (h:K [e]):AU [e] 0 1 K:=UO (by simp) (by simpa using h0) h
theorem I9 {e e':List AV} {K:List (List AV)->Prop} (h0:FA e=true) (h1:FA e'=true) (h:K [e,e']):AU [e,e'] 0 2 K:=UO (by simp) (by simpa using ⟨h0,h1⟩) h
theorem iZ {e':List AV} {K:List (List AV)->Prop} (h1:FA e'=true) (h:K [[.sl false []],e']):AU [[.nil],e'] 0 2 K :=
 ⟨by simp,by simpa using ⟨rfl,(VU h1).1⟩,by simpa [(VU h1).2,nl] using h⟩
section
variable {β:Type} {z:Nat} {ll:List (List β)} {en:β->List AV}
abbrev ET (z:Nat) (en:β->List AV) (ll:List (List β)):List (Option (Nat × List (List AV))):=ll.map λ r=>some (z,r.map en)
theorem xA {i:Nat} {K:Option (Nat × List (List AV))->Prop} (hi:i<ll.length) (h : ∀ r,ll[i]? = some r->K (some (z,r.map en))):B1 (ET z en ll) (0+((i:Int)).toNat) K:=by
 have he:ll[i]? = some ll[i]:=zE _;exact ⟨_,by rw[Nat.zero_add,Int.toNat_natCast,List.getElem?_map,he];rfl,h _ he⟩
theorem wW {i:Nat} {K:Nat->List (List AV)->Prop} {r:List β} (hr:ll[i]? = some r) (h:K z (r.map en)):BQ (ET z en ll) i K :=
 ⟨z,r.map en,by rw[List.getElem?_map,hr];rfl,h⟩
theorem wX {i:Nat} {K:Nat->List (List AV)->Prop} {r:List β} (hr:ll[i]? = some r) (h:K z (r.map en)):BQ (ET z en ll) (0+((i:Int)).toNat) K:=by
 rw[Nat.zero_add,Int.toNat_natCast];exact wW hr h
theorem iG {len bytes:Nat} {r:List β} {K:List (Option (Nat × List (List AV)))->Nat->Prop} (hl:len=ll.length) (hr:(ll.length+1)*bytes<=140737488355328) (ae:ll.length+1<=9223372036854775807) (h:K (ET z en (ll++[r])) (ll++[r]).length):BF (ET z en ll) len (some (z,r.map en)) bytes K:=by
 subst hl;exact ⟨by simp,by simpa [EZ] using hr,ae,by simpa [ET] using h⟩
theorem sL (q:Bool) : ∀ ll:List (List β),O2 q (ET z en ll)=ll.map λ r=>[AV.sl q (r.map en)]
 | []=>rfl
 | r::l=>by simp only[ET,List.map_cons,O2];rw[show O2 q (l.map λ r=>some (z,r.map en))=_ from sL q l]
theorem PI {q:Bool} {off len:Nat} {K:List (List AV)->Prop} (hz : ∀ x,FA (en x)=true) (ho:off=0) (hl:len=ll.length) (h:K (ll.map λ r=>[AV.sl q (r.map en)])):BV q (ET z en ll) off len K:=by
 refine ⟨ho,by simpa using hl,λ z' es hm e he => ?_,by rw[sL];exact h⟩;obtain ⟨r,_,hr⟩:=List.mem_map.1 hm;simp only[Option.some.injEq,Prod.mk.injEq]at hr;obtain ⟨rfl,rfl⟩:=hr;obtain ⟨x,_,rfl⟩:=List.mem_map.1 he;exact hz x
end
theorem wR {len:Nat} {a:Int} {K:Nat->Nat->Prop} (h0:0<=a/\a<=len) (h:K a.toNat len):BI (some a) none len K:=⟨a.toNat,len,⟨h0.1,rfl⟩,rfl,by omega,h⟩
theorem wP {len:Nat} {b:Int} {K:Nat->Nat->Prop} (h0:0<=b/\b<=len) (h:K 0 b.toNat):BI none (some b) len K:=⟨0,b.toNat,rfl,⟨h0.1,h0.2,rfl⟩,by omega,h⟩
theorem ZQ {len:Nat} {a b:Int} {K:Nat->Nat->Prop} (h0:0<=a/\a<=b/\b<=len) (h:K a.toNat b.toNat):BI (some a) (some b) len K:=⟨a.toNat,b.toNat,⟨h0.1,rfl⟩,⟨by omega,by omega,rfl⟩,by omega,h⟩
theorem W1 {z:Nat} {lo hi:Option Int} {K:List (List AV)->Prop} (hz : ∀ x,(enc x).length=z) (h:BI lo hi l.length λ a h=>K (((l.take h).drop a).map enc)):BR z (l.map enc) lo hi K:=by
 refine ⟨by simp [hz],?_⟩;rw[List.length_map];obtain ⟨a,b,h1,h2,h3,h4⟩:=h;refine ⟨a,b,h1,h2,h3,?_⟩;show K _;rw[<-List.map_take,<-List.map_drop];exact h4
theorem QD {z k:Nat} {K:List (List AV)->Prop} (hz : ∀ x,(enc x).length=z) (hk:k<=l.length) (h:K ((l.take k).map enc)):BR z (l.map enc) none (some (k:Int)) K :=
 W1 hz (wP (by omega) (by simpa using h))
theorem iY {z k:Nat} {K:List (List AV)->Prop} (hz : ∀ x,(enc x).length=z) (hk:k<=l.length) (h:K ((l.drop k).map enc)):BR z (l.map enc) (some (k:Int)) none K :=
 W1 hz (wR (by omega) (by simpa using h))
theorem AD {f:Nat} {vs:List AV} {K:AV->Prop} {r:AV} (h:Ev L f vs r) (hk:K r):AB L f vs K:=⟨r,h,hk⟩
theorem F9 {f:Nat} {vs:List AV} {K:AV->Prop} {p:Prop} [Decidable p] (h:Ev L f vs (.bool (decide p))) (h1:p->K (.bool true)) (h2 : ¬ p->K (.bool false)):AB L f vs K:=by
 refine ⟨_,h,?_⟩;by_cases e:p
 ·rw[decide_eq_true e];exact h1 e
 ·rw[decide_eq_false e];exact h2 e
theorem AW {a r:AV} (h:a=r) (hc:A4 r):AJ a r:=⟨h,hc⟩
theorem G7 {a r:Bool} (h:a=r):AJ (.bool a) (.bool r):=⟨by rw[h],by simp [A4]⟩
theorem SW {p:Prop} [Decidable p] (h:p):AJ (.bool true) (.bool (decide p)):=⟨by simp [h],by simp [A4]⟩
theorem Q6 {p:Prop} [Decidable p] (h : ¬ p):AJ (.bool false) (.bool (decide p)):=⟨by simp [h],by simp [A4]⟩
theorem CP {k:IntKind} {a b:Int} (h:a=b):AJ (.int k a) (.int k b):=⟨by rw[h],by simp [A4]⟩
theorem RG (h : ∀ x,CB (enc x)) : ∀ l:List α,EN (l.map enc)
 | []=>by simp [EN]
 | x::r=>by rw[List.map_cons,EN];exact ⟨h x,RG h r⟩
end
theorem kH (l:List Int):EN (l.map CQ):=RG (λ_=>by simp [CB,A4]) l
theorem CK {α:Type} {L:Lib} {k:List It} {cd:BD} {tm:Tm} {M:Mem} {Q:Tm->Mem->Prop} (m:α->Nat) (P:α->Prop) (vs:α->Tm) (Ms:α->Mem) (ts:List Nat) (τ:List (Nat × Nat)) (a:α)
  (he:PC τ tm M (vs a++y9 ts tm) (Ms a++M)) (hp:P a)
  (step : ∀ a,P a->(∀ a',m a'<m a->P a'->AA L (.lp cd::k) (vs a'++y9 ts tm) (Ms a'++M) Q)->AA L (.code cd :: .lp cd::k) (vs a++y9 ts tm) (Ms a++M) Q):AA L (.lp cd::k) tm M Q :=
 UE (α:=α) (λ x=>m x) (λ x=>P x) (λ x=>vs x) (λ x=>Ms x) ts τ a he hp λ a h ih=>step a h λ a' h1 h2=>ih a' h1 h2
theorem EX {α β:Type} {L:Lib} {k:List It} {cd:BD} {tm:Tm} {M:Mem} {Q:Tm->Mem->Prop} (m:α->β->Nat) (P:α->β->Prop) (vs:α->β->Tm) (Ms:α->β->Mem) (ts:List Nat) (τ:List (Nat × Nat)) (a:α) (b:β)
  (he:PC τ tm M (vs a b++y9 ts tm) (Ms a b++M)) (hp:P a b)
  (step : ∀ a b,P a b->(∀ a' b',m a' b'<m a b->P a' b'->AA L (.lp cd::k) (vs a' b'++y9 ts tm) (Ms a' b'++M) Q)->AA L (.code cd :: .lp cd::k) (vs a b++y9 ts tm) (Ms a b++M) Q):AA L (.lp cd::k) tm M Q :=
 UE (α:=α × β) (λ x=>m x.1 x.2) (λ x=>P x.1 x.2) (λ x=>vs x.1 x.2) (λ x=>Ms x.1 x.2) ts τ (a,b) he hp λ⟨a,b⟩ h ih=>step a b h λ a' b' h1 h2=>ih (a',b') h1 h2
theorem GR {α β γ:Type} {L:Lib} {k:List It} {cd:BD} {tm:Tm} {M:Mem} {Q:Tm->Mem->Prop} (m:α->β->γ->Nat) (P:α->β->γ->Prop) (vs:α->β->γ->Tm) (Ms:α->β->γ->Mem) (ts:List Nat) (τ:List (Nat × Nat)) (a:α) (b:β) (c:γ)
  (he:PC τ tm M (vs a b c++y9 ts tm) (Ms a b c++M)) (hp:P a b c)
  (step : ∀ a b c,P a b c->(∀ a' b' c',m a' b' c'<m a b c->P a' b' c'->AA L (.lp cd::k) (vs a' b' c'++y9 ts tm) (Ms a' b' c'++M) Q)->AA L (.code cd :: .lp cd::k) (vs a b c++y9 ts tm) (Ms a b c++M) Q):AA L (.lp cd::k) tm M Q :=
 UE (α:=α × β × γ) (λ x=>m x.1 x.2.1 x.2.2) (λ x=>P x.1 x.2.1 x.2.2) (λ x=>vs x.1 x.2.1 x.2.2) (λ x=>Ms x.1 x.2.1 x.2.2) ts τ (a,b,c) he hp λ⟨a,b,c⟩ h ih=>step a b c h λ a' b' c' h1 h2=>ih (a',b',c') h1 h2
theorem ZO {α β γ δ:Type} {L:Lib} {k:List It} {cd:BD} {tm:Tm} {M:Mem} {Q:Tm->Mem->Prop} (m:α->β->γ->δ->Nat) (P:α->β->γ->δ->Prop) (vs:α->β->γ->δ->Tm) (Ms:α->β->γ->δ->Mem) (ts:List Nat) (τ:List (Nat × Nat)) (a:α) (b:β) (c:γ) (d:δ)
  (he:PC τ tm M (vs a b c d++y9 ts tm) (Ms a b c d++M)) (hp:P a b c d)
  (step : ∀ a b c d,P a b c d->(∀ a' b' c' d',m a' b' c' d'<m a b c d->P a' b' c' d'->AA L (.lp cd::k) (vs a' b' c' d'++y9 ts tm) (Ms a' b' c' d'++M) Q)->AA L (.code cd :: .lp cd::k) (vs a b c d++y9 ts tm) (Ms a b c d++M) Q):AA L (.lp cd::k) tm M Q :=
 UE (α:=α × β × γ × δ) (λ x=>m x.1 x.2.1 x.2.2.1 x.2.2.2) (λ x=>P x.1 x.2.1 x.2.2.1 x.2.2.2) (λ x=>vs x.1 x.2.1 x.2.2.1 x.2.2.2) (λ x=>Ms x.1 x.2.1 x.2.2.1 x.2.2.2) ts τ (a,b,c,d) he hp λ⟨a,b,c,d⟩ h ih=>step a b c d h λ a' b' c' d' h1 h2=>ih (a',b',c',d') h1 h2
theorem vM {α β γ δ ε ζ:Type} {L:Lib} {k:List It} {cd:BD} {tm:Tm} {M:Mem} {Q:Tm->Mem->Prop} (m:α->β->γ->δ->ε->ζ->Nat) (P:α->β->γ->δ->ε->ζ->Prop) (vs:α->β->γ->δ->ε->ζ->Tm) (Ms:α->β->γ->δ->ε->ζ->Mem) (ts:List Nat) (τ:List (Nat × Nat)) (a:α) (b:β) (c:γ) (d:δ) (e:ε) (f:ζ)
  (he:PC τ tm M (vs a b c d e f++y9 ts tm) (Ms a b c d e f++M)) (hp:P a b c d e f)
  (step : ∀ a b c d e f,P a b c d e f->(∀ a' b' c' d' e' f',m a' b' c' d' e' f'<m a b c d e f->P a' b' c' d' e' f'->AA L (.lp cd::k) (vs a' b' c' d' e' f'++y9 ts tm) (Ms a' b' c' d' e' f'++M) Q)->AA L (.code cd :: .lp cd::k) (vs a b c d e f++y9 ts tm) (Ms a b c d e f++M) Q):AA L (.lp cd::k) tm M Q :=
 UE (α:=α × β × γ × δ × ε × ζ) (λ x=>m x.1 x.2.1 x.2.2.1 x.2.2.2.1 x.2.2.2.2.1 x.2.2.2.2.2) (λ x=>P x.1 x.2.1 x.2.2.1 x.2.2.2.1 x.2.2.2.2.1 x.2.2.2.2.2) (λ x=>vs x.1 x.2.1 x.2.2.1 x.2.2.2.1 x.2.2.2.2.1 x.2.2.2.2.2) (λ x=>Ms x.1 x.2.1 x.2.2.1 x.2.2.2.1 x.2.2.2.2.1 x.2.2.2.2.2) ts τ (a,b,c,d,e,f) he hp λ⟨a,b,c,d,e,f⟩ h ih=>step a b c d e f h λ a' b' c' d' e' f' h1 h2=>ih (a',b',c',d',e',f') h1 h2
theorem AE {L:Lib} {Q:Tm->Mem->Prop} {c:BD} {k:List It} {tm:Tm} {M:Mem} (h:fT (se 0 tm) λ tm=>VR M λ M=>XK L Q 500 (.code c::k) tm M):AA L (.code c::k) tm M Q:=by
 rw[VD,dV]at h;exact vL (jD h)
end Go.b7

namespace Go.b7
variable {L:Lib}
def CU (N:Nat):AP->Bool
 | .t n=>Nat.blt n N
 | .c _=>true
def VZ (N:Nat):DR->Bool
 | .a8 x=>CU N x
 | .x8 _ _=>true
 | .pick c a b=>CU N c&&(CU N a&&CU N b)
 | .bin _ x y=>CU N x&&CU N y
 | .beq _ x y=>CU N x&&CU N y
 | .un _ x=>CU N x
 | .conv _ x=>CU N x
 | .box _ x=>CU N x
 | .alloc _ _=>true
 | .build _ ps=>ps.all λ p=>CU N p.2.2
 | .b8 _ _ ps=>ps.all (CU N)
 | .a5 x _=>CU N x
 | .jy x _ _ _=>CU N x
 | .a7 _ _ x i=>CU N x&&CU N i
 | .ld _ _ x=>CU N x
 | .st _ x v=>CU N x&&CU N v
 | .mk _ _ _ _ l c=>CU N l&&CU N c
 | .bz _ x lo hi=>CU N x&&((lo.all (CU N))&&(hi.all (CU N)))
 | .ext x _=>CU N x
 | .len x=>CU N x
 | .mm _ xs=>xs.all (CU N)
 | .app _ _ _ x y=>CU N x&&CU N y
 | .call _ xs=>xs.all (CU N)
 | .e9 _ xs=>xs.all (CU N)
 | .nr _ x=>CU N x
 | .de _ x=>CU N x
 | .bad=>true
 | .ki _ _ xs=>xs.all (CU N)
 | .m6 x xs=>CU N x&&xs.all (CU N)
 | .l8 _ xs=>xs.all (CU N)
 | .o8 _ _ xs=>xs.all (CU N)
 | .z7 _ _ xs=>xs.all (CU N)
 | .kj _ _ x v=>CU N x&&CU N v
def UQ (N:Nat) (a:AI):Bool:=(a.dst.all λ d=>Nat.blt d N)&&((a.guard.all λ g=>Nat.blt g.1 N)&&VZ N a.op)
def IJ (N:Nat):BD->Bool
 | .skip=>true
 | .ops l _=>l.all (UQ N)
 | .dr c ts _=>IJ N c&&ts.all λ t=>Nat.blt t N
 | .scope c=>IJ N c
 | .seq a b=>IJ N a&&IJ N b
 | .cond c a b=>CU N c&&(IJ N a&&IJ N b)
 | .block _ c=>IJ N c
 | .loop c=>IJ N c
 | .exit _=>true
 | .ret=>true
def QR (N:Nat):It->Bool
 | .code c=>IJ N c
 | .jx ts _=>ts.all λ t=>Nat.blt t N
 | .c9 _=>true
 | .lp c=>IJ N c
structure Gh (N:Nat) (G T T':Tm):Prop where
 lo : ∀ j,j<N->g6 T' j=g6 T j
 hi : ∀ j,N<=j->g6 T' j=g6 G j
variable {N:Nat} {G:Tm}
theorem RD {a b:Nat}:Nat.blt a b=true↔a<b:=by simp [Nat.blt];omega
theorem Gh.ev {st:St} {T':Tm} {o:AH} (h:Gh N G st.tm T') {x:AP} (hx:CU N x=true):St.ev ⟨T',o⟩ x=st.ev x:=by
 cases x with
 | t n=>exact h.lo n (RD.1 hx)
 | c v=>rfl
theorem RY {f g:AP->AV} {xs:List AP} (h : ∀ x,CU N x=true->f x=g x) (hx:xs.all (CU N)=true):xs.map f=xs.map g:=by
 apply List.map_congr_left;intro x hm;exact h x (List.all_eq_true.1 hx x hm)
theorem Qy {C:Cl} {c4:List Nat} {ρ ρ':AP->AV} {own:AH} (h : ∀ x,CU N x=true->ρ' x=ρ x) : ∀ (op:DR),VZ N op=true->e8 C c4 ρ' own op=e8 C c4 ρ own op:=by
 intro op k8;cases op;case build zero ps =>
  have:(ps.map λ p=>(p.1,p.2.1,ρ' p.2.2))=ps.map λ p=>(p.1,p.2.1,ρ p.2.2):=by
   apply List.map_congr_left;intro p hm;rw[h _ (List.all_eq_true.1 k8 p hm)]
  simp only[e8,this]
 case b8 s a9 ps =>
  have:ps.mapM (λ x=>cellsOf (ρ' x))=ps.mapM (λ x=>cellsOf (ρ x)):=by
   have oa:ps.all (CU N)=true:=k8;clear k8;induction ps with
   | nil=>rfl
   | cons p r ih =>
    simp only[List.all_cons,Bool.and_eq_true]at oa;simp only[List.mapM_cons,h _ oa.1,ih oa.2]
  simp only[e8,this]
 case mm m xs=>simp only[e8,RY h k8]
 case call f xs=>simp only[e8,RY h k8]
 case e9 f xs=>simp only[e8,RY h k8]
 case ki p f xs =>
  have:xs.mapM (λ x=>G0 (ρ' x))=xs.mapM (λ x=>G0 (ρ x)):=by
   have oa:xs.all (CU N)=true:=k8;clear k8;induction xs with
   | nil=>rfl
   | cons p r ih =>
    simp only[List.all_cons,Bool.and_eq_true]at oa;simp only[List.mapM_cons,h _ oa.1,ih oa.2]
  simp only[e8,this]
 case l8 f xs=>simp only[e8,RY h k8]
 case o8 s f xs=>simp only[e8,RY h k8]
 case z7 s f xs=>simp only[e8,RY h k8]
 case m6 x xs =>
  simp only[VZ,Bool.and_eq_true]at k8;simp only[e8,RY h k8.2,h _ k8.1]
 case bz a9 x lo hi =>
  simp only[VZ,Bool.and_eq_true]at k8;obtain ⟨h1,h2,h3⟩:=k8;cases lo<;>cases hi<;>simp only[Option.all_some,Option.all_none]at h2 h3<;>simp only[e8,h _ h1,h _,h2,h3]
 all_goals (simp only[VZ,Bool.and_eq_true]at k8;simp only[e8,h _,k8])
theorem Gh.dst {T T':Tm} (h:Gh N G T T') {d:Nat} (hd:d<N) (v:AV):Gh N G (ff T d v) (ff T' d v):=by
 constructor
 ·intro j hj
  rw[WL,WL,h.lo j hj]
 ·intro j hj
  rw[WL,h.hi j hj,if_neg (by omega)]
theorem Gh.km {T T':Tm} {o:AH} (h:Gh N G T T') {d:Option Nat} (hd:(d.all λ d=>Nat.blt d N)=true) (v:AV):((⟨T',o⟩:St).dst d v).own=((⟨T,o⟩:St).dst d v).own/\Gh N G ((⟨T,o⟩:St).dst d v).tm ((⟨T',o⟩:St).dst d v).tm:=by
 cases d with
 | none=>exact ⟨rfl,h⟩
 | some d=>exact ⟨rfl,h.dst (RD.1 hd) v⟩
theorem Zw {C:Cl} {a:AI} (ha:UQ N a=true) {T T':Tm} {o:AH} (h:Gh N G T T') {s':St} (hs:CZ C a ⟨T',o⟩=some s') : ∃ s,CZ C a ⟨T,o⟩=some s/\s'.own=s.own/\Gh N G s.tm s'.tm:=by
 simp only[UQ,Bool.and_eq_true]at ha;obtain ⟨h1,h2,h3⟩:=ha;have hg:FJ ⟨T',o⟩ a.guard=FJ ⟨T,o⟩ a.guard:=by
  cases hgg:a.guard with
  | none=>rfl
  | some g =>
   rw[hgg]at h2;simp only[FJ,h.lo _ (RD.1 h2)]
 have he:=Qy (C:=C) (c4:=a.c4) (own:=o) (ρ:=St.ev ⟨T,o⟩) (ρ':=St.ev ⟨T',o⟩) (λ x hx=>Gh.ev (st:=⟨T,o⟩) h hx) a.op h3;unfold CZ at hs ⊢;rw[hg,he]at hs;cases zk:FJ ⟨T,o⟩ a.guard with
 | none=>rw[zk]at hs;cases hs
 | some b =>
  rw[zk]at hs;cases b with
  | false =>
   simp only[Option.some.injEq]at hs ⊢;subst hs;exact ⟨_,rfl,h.km h1 _⟩
  | true =>
   simp only at hs ⊢;cases Kt:e8 C a.c4 (St.ev ⟨T,o⟩) o a.op with
   | none=>rw[Kt]at hs;cases hs
   | some e =>
    rw[Kt]at hs;simp only[Option.map_some,Option.some.injEq]at hs ⊢;subst hs;refine ⟨_,rfl,?_⟩;cases e with
    | val v=>exact h.km h1 v
    | new s b v=>exact ⟨rfl,(h.km (o:=o) h1 _).2⟩
    | uf s b v=>exact ⟨rfl,(h.km (o:=o) h1 _).2⟩
    | al v o'=>exact ⟨rfl,(h.km (o:=o) h1 _).2⟩
    | n9 s x=>exact ⟨rfl,(h.km (o:=o) h1 _).2⟩
    | rz s x v=>exact ⟨rfl,(h.km (o:=o) h1 _).2⟩
theorem uB {C:Cl} : ∀ {l:List AI},l.all (UQ N)=true -> ∀ {T T':Tm} {o:AH},Gh N G T T' -> ∀ {s':St},C9 C l ⟨T',o⟩=some s' -> ∃ s,C9 C l ⟨T,o⟩=some s/\s'.own=s.own/\Gh N G s.tm s'.tm
 | [],_,T,T',o,h,s',hs=>by
  simp only[C9,Option.some.injEq]at hs;subst hs;exact ⟨_,rfl,rfl,h⟩
 | a::l,ha,T,T',o,h,s',hs=>by
  simp only[List.all_cons,Bool.and_eq_true]at ha;simp only[C9]at hs;cases h1:CZ C a ⟨T',o⟩ with
  | none=>rw[h1]at hs;cases hs
  | some s1 =>
   rw[h1]at hs;obtain ⟨s2,e1,e2,e3⟩:=Zw ha.1 h h1;obtain ⟨T1,o1⟩:=s1;obtain ⟨T2,o2⟩:=s2;simp only at e2 e3;subst e2;obtain ⟨s3,f1,f2,f3⟩:=uB ha.2 e3 hs;exact ⟨s3,by simp only[C9,e1,f1],f2,f3⟩
theorem VB {id:Nat} : ∀ {k k':List It},k.all (QR N)=true->FI id k=some k'->k'.all (QR N)=true
 | [],_,_,h=>by simp [FI]at h
 | it::k,k',hk,h=>by
  simp only[List.all_cons,Bool.and_eq_true]at hk;cases it with
  | c9 i =>
   simp only[FI]at h;split at h
   ·cases h;exact hk.2
   ·exact VB hk.2 h
  | code c=>simp only[FI]at h;exact VB hk.2 h
  | jx a b=>simp only[FI]at h;exact VB hk.2 h
  | lp c=>simp only[FI]at h;exact VB hk.2 h
theorem I2 {C:Cl} : ∀ (n:Nat) {k:List It},k.all (QR N)=true -> ∀ {T T':Tm} {o:AH},Gh N G T T' -> ∀ {s':St},run C n k ⟨T',o⟩=some s' -> ∃ s,run C n k ⟨T,o⟩=some s/\s'.own=s.own/\Gh N G s.tm s'.tm
 | 0,k,_,T,T',o,_,s',hs=>by simp [run]at hs
 | n+1,[],_,T,T',o,h,s',hs=>by
  simp only[run,Option.some.injEq]at hs ⊢;subst hs;exact ⟨_,rfl,rfl,h⟩
 | n+1,.c9 _::k,hk,T,T',o,h,s',hs=>by
  simp only[List.all_cons,Bool.and_eq_true]at hk;simp only[run]at hs ⊢;exact I2 n hk.2 h hs
 | n+1,.jx ts ss::k,hk,T,T',o,h,s',hs=>by
  simp only[List.all_cons,Bool.and_eq_true]at hk;simp only[run]at hs ⊢;refine I2 n hk.2 ⟨λ j hj => ?_,λ j hj => ?_⟩ hs
  ·rw[T7,T7,h.lo j hj]
  ·rw[T7,h.hi j hj,if_neg]
   intro hc;have:=List.all_eq_true.1 hk.1 j (by simpa using hc)
   have:=RD.1 this
   omega
 | n+1,.lp c::k,hk,T,T',o,h,s',hs=>by
  simp only[run]at hs ⊢;have dz:=hk;simp only[List.all_cons,Bool.and_eq_true]at hk;exact I2 n (by simp only[List.all_cons,Bool.and_eq_true];exact ⟨hk.1,hk.1,hk.2⟩) h hs
 | n+1,.code c::k,hk,T,T',o,h,s',hs=>by
  simp only[List.all_cons,Bool.and_eq_true]at hk;obtain ⟨hc,hk⟩:=hk;cases c with
  | skip=>simp only[run]at hs ⊢;exact I2 n hk h hs
  | ops l d =>
   simp only[run]at hs ⊢;cases h1:C9 C l ⟨T',o⟩ with
   | none=>rw[h1]at hs;cases hs
   | some s1 =>
    rw[h1]at hs;obtain ⟨s2,e1,e2,e3⟩:=uB (show l.all (UQ N)=true from hc) h h1;obtain ⟨T1,o1⟩:=s1;obtain ⟨T2,o2⟩:=s2;simp only at e2 e3;subst e2;rw[e1];exact I2 n hk e3 hs
  | dr c ts ss =>
   simp only[run]at hs ⊢;simp only[QR,IJ,Bool.and_eq_true]at hc;exact I2 n (by simp only[List.all_cons,Bool.and_eq_true];exact ⟨hc.1,hc.2,hk⟩) h hs
  | scope c =>
   simp only[run]at hs ⊢;exact I2 n (by simp only[List.all_cons,Bool.and_eq_true];exact ⟨hc,hk⟩) h hs
  | seq a b =>
   simp only[run]at hs ⊢;simp only[QR,IJ,Bool.and_eq_true]at hc;exact I2 n (by simp only[List.all_cons,Bool.and_eq_true];exact ⟨hc.1,hc.2,hk⟩) h hs
  | cond x a b =>
   simp only[QR,IJ,Bool.and_eq_true]at hc;simp only[run,Gh.ev (st:=⟨T,o⟩) h hc.1]at hs ⊢;cases hx:St.ev ⟨T,o⟩ x<;>rw[hx]at hs<;>try (simp at hs;done)
   rename_i q;cases q
   ·exact I2 n (by simp only[List.all_cons,Bool.and_eq_true];exact ⟨hc.2.2,hk⟩) h hs
   ·exact I2 n (by simp only[List.all_cons,Bool.and_eq_true];exact ⟨hc.2.1,hk⟩) h hs
  | block id c =>
   simp only[run]at hs ⊢;exact I2 n (by simp only[List.all_cons,Bool.and_eq_true];exact ⟨hc,rfl,hk⟩) h hs
  | loop c =>
   simp only[run]at hs ⊢;exact I2 n (by simp only[List.all_cons,Bool.and_eq_true];exact ⟨hc,hc,hk⟩) h hs
  | exit id =>
   simp only[run]at hs ⊢;cases he:FI id k with
   | none=>rw[he]at hs;cases hs
   | some k' =>
    rw[he]at hs;exact I2 n (VB hk he) h hs
  | ret =>
   simp only[run,Option.some.injEq]at hs ⊢;subst hs;exact ⟨_,rfl,rfl,h⟩
def GP (N:Nat):Tm->Tm
 | []=>[]
 | (i,v)::r=>(N+i,v)::GP N r
def gh (N:Nat):Tm->Tm
 | []=>[]
 | (i,v)::r=>bif Nat.ble N i then (Nat.sub i N,v)::gh N r else gh N r
theorem gZ (N j:Nat) : ∀ T:Tm,g6 (GP N T) (N+j)=g6 T j
 | []=>rfl
 | (i,v)::r=>by
  have ih:=gZ N j r;simp only[GP,g6,ih];by_cases h:j=i
  ·simp [h]
  ·rw[if_neg h,if_neg (by omega)]
theorem hJ {N j:Nat} (hj:j<N) : ∀ T:Tm,g6 (GP N T) j = .any
 | []=>rfl
 | (i,v)::r=>by
  simp only[GP,g6,hJ hj r];rw[if_neg (by omega)]
theorem gX (N j:Nat) : ∀ T:Tm,g6 (gh N T) j=g6 T (N+j)
 | []=>rfl
 | (i,v)::r=>by
  have ih:=gX N j r;simp only[gh];cases h:Nat.ble N i
  ·have h1 : ¬ N<=i:=λ e=>by rw[Nat.ble_eq_true_of_le e]at h;cases h
   simp only[cond,g6,ih];rw[if_neg (by omega)]
  ·have h1:=Nat.le_of_ble_eq_true h
   simp only[cond,g6,ih];by_cases h2:j=i-N
   ·rw[if_pos (show j=Nat.sub i N from h2),if_pos (by omega)]
   ·rw[if_neg (show ¬ j=Nat.sub i N from h2),if_neg (by omega)]
def LN (f:AV->AV):Tm->Tm
 | []=>[]
 | (i,v)::r=>(i,f v)::LN f r
theorem J6 {f:AV->AV} (hf:f .any = .any) (j:Nat) : ∀ T:Tm,g6 (LN f T) j=f (g6 T j)
 | []=>hf.symm
 | (i,v)::r=>by
  simp only[LN,g6,J6 hf j r];by_cases h:j=i<;>simp [h]
theorem dG (f:AV->AV) : ∀ (i:Nat) (vs:List AV),CR i (vs.map f)=LN f (CR i vs)
 | _,[]=>rfl
 | i,v::r=>by simp only[List.map_cons,CR,LN,dG f (i+1) r]
theorem WJ (j:Nat) (b:Tm) : ∀ a:Tm,((a.any λ p=>p.1 == j)=true/\g6 (a++b) j=g6 a j)\/((a.any λ p=>p.1 == j)=false/\g6 (a++b) j=g6 b j)
 | []=>Or.inr ⟨rfl,rfl⟩
 | (i,v)::r=>by
  by_cases h:j=i
  ·subst h
   exact Or.inl (by simp [g6])
  ·have h' : ¬ i=j:=λ e=>h e.symm
   rcases WJ j b r with ⟨h1,h2⟩|⟨h1,h2⟩
   ·exact Or.inl ⟨by rw[List.any_cons,h1,Bool.or_true],by simp only[List.cons_append,g6,if_neg h,h2]⟩
   ·exact Or.inr ⟨by rw[List.any_cons,h1,Bool.or_false];simpa using h',by simp only[List.cons_append,g6,if_neg h,h2]⟩
theorem dF (j:Nat) : ∀ (i:Nat) (vs:List AV),((CR i vs).any λ p=>p.1 == j)=true->j<i+vs.length
 | _,[],h=>by simp [CR]at h
 | i,v::r,h=>by
  simp only[CR,List.any_cons,Bool.or_eq_true,beq_iff_eq]at h;rcases h with h|h
  ·simp;omega
  ·have:=dF j (i+1) r h
   simp;omega
theorem gY (j:Nat) : ∀ (i:Nat) (vs:List AV),((CR i vs).any λ p=>p.1 == j)=false->g6 (CR i vs) j = .any
 | _,[],_=>rfl
 | i,v::r,h=>by
  simp only[CR,List.any_cons,Bool.or_eq_false_iff,beq_eq_false_iff_ne]at h;simp only[CR,g6];rw[if_neg λ e=>h.1 e.symm,gY j (i+1) r h.2]
theorem KP (σ:FG):A8 σ .any = .any:=rfl
def QX (tm:Tm):List JN->Option (List AV)
 | []=>some []
 | .tmp t::r=>match I1 (tg tm t),QX tm r with
  | some v,some vs=>some (v::vs)
  | _,_=>none
 | .cell _ _ _::_=>none
def V4 (N:Nat):List JN->Bool
 | []=>true
 | .tmp t::r=>Nat.blt t N&&V4 N r
 | .cell _ _ _::_=>false
def iV (N:Nat) (fn:AFn) (tm:Tm) (K:AV->Mem->Prop) (w9:Tm) (M':Mem):Prop:=gh N w9=tm /\ ∃ rs,QX w9 fn.res=some rs/\K (H5 rs) M'
theorem Afp {σ:FG} {v u:AV} (h:I1 v=some u):u=v/\A8 σ v=BK σ v/\I1 (A8 σ v)=some (A8 σ v):=by
 cases v<;>simp [I1]at h<;>subst h<;>exact ⟨rfl,rfl,rfl⟩
theorem fK {σ:FG} {w9:Tm} {M:Mem} {s s':St} (hr:RX σ w9 M s') (kb : ∀ j,j<N->g6 s'.tm j=g6 s.tm j) : ∀ {res:List JN} {rs:List AV},V4 N res=true->QX w9 res=some rs->res.mapM (E6 s)=some (rs.map (BK σ)) /\ ∀ v∈rs,A8 σ v=BK σ v
 | [],rs,_,h=>by
  simp only[QX,Option.some.injEq]at h;subst h;exact ⟨rfl,by simp⟩
 | .cell _ _ _::_,_,_,h=>by simp [QX]at h
 | .tmp t::r,rs,hl,h=>by
  simp only[V4,Bool.and_eq_true]at hl;simp only[QX]at h;cases h1:I1 (tg w9 t) with
  | none=>rw[h1]at h;simp at h
  | some v =>
   cases h2:QX w9 r with
   | none=>rw[h1,h2]at h;simp at h
   | some vs =>
    rw[h1,h2]at h;simp only[Option.some.injEq]at h;subst h;obtain ⟨i1,i2⟩:=fK hr kb hl.2 h2;obtain ⟨rfl,j2,j3⟩:=Afp (σ:=σ) h1;have:g6 s.tm t=A8 σ (tg w9 t):=by
     rcases hr.tm t with e|e
     ·rw[e]at h1;cases h1
     ·rw[<-kb t (RD.1 hl.1),e]
    refine ⟨?_,?_⟩
    ·rw[j2]at j3 this
     simp only[List.mapM_cons,E6,this,j3,i1,List.map_cons];rfl
    ·intro v hv
     simp only[List.mem_cons]at hv;rcases hv with rfl|hv
     ·exact j2
     ·exact i2 v hv
theorem sD {σ:FG} {rs:List AV} (h : ∀ v∈rs,A8 σ v=BK σ v):H5 (rs.map (BK σ))=A8 σ (H5 rs):=by
 match rs,h with
 | [],_=>rfl
 | [v],h=>exact (h v (by simp)).symm
 | _::_::_,_=>rfl
theorem GS {f:Nat} {fn:AFn} {vs:List AV} {tm:Tm} {M:Mem} {K:AV->Mem->Prop} (N:Nat) (hL:L f=some fn) (hp:Nat.beq vs.length fn.x5=true) (hN:(Nat.ble fn.x5 N&&(IJ N fn.body&&V4 N fn.res))=true)
  (h:AA L [.code fn.body] (CR 0 vs++GP N tm) M (iV N fn tm K)):A1 L f vs tm M K:=by
 intro σ own hs;simp only[Bool.and_eq_true]at hN;obtain ⟨n1,n2,n3⟩:=hN;have n1:=Nat.le_of_ble_eq_true n1;have hp:vs.length=fn.x5:=Nat.eq_of_beq_eq_true hp;have Ig:RX σ (CR 0 vs++GP N tm) M ⟨LN (A8 σ) (CR 0 vs++GP N tm),own⟩:=⟨λ j=>Or.inr (by rw[J5];exact J6 (KP σ) j _),hs⟩;obtain ⟨n,c,s',hr,σ',w9,M',hR,hg,rs,Cr,hk⟩:=h σ _ Ig;have Hh:Gh N (LN (A8 σ) (GP N tm)) (CR 0 (vs.map (A8 σ))) (LN (A8 σ) (CR 0 vs++GP N tm)):=by
  constructor
  ·intro j hj
   rw[dG,J6 (KP σ),J6 (KP σ)];rcases WJ j (GP N tm) (CR 0 vs) with ⟨_,e⟩|⟨hn,e⟩
   ·rw[e]
   ·rw[e,hJ hj,gY j 0 vs hn]
  ·intro j hj
   rw[J6 (KP σ),J6 (KP σ)];rcases WJ j (GP N tm) (CR 0 vs) with ⟨hn,e⟩|⟨_,e⟩
   ·have:=dF j 0 vs hn
    omega
   ·rw[e]
 obtain ⟨s,r1,r2,r3⟩:=I2 n (by simp [QR,n2]) Hh hr;obtain ⟨i1,i2⟩:=fK (s:=s) hR r3.lo n3 Cr;refine ⟨H5 rs,s.own,σ',M',GT.intro hL (by simpa using hp) ⟨n,c,s,r1,?_,rfl⟩,?_,?_,hk⟩
 ·rw[i1,Option.map_some,sD i2]
 ·rw[<-r2];exact hR.sat
 ·intro j
  have e1:tg tm j=tg w9 (N+j):=by rw[J5,J5,<-hg,gX]
  rcases hR.tm (N+j) with e|e
  ·rw[e1,e];rfl
  ·rw[e1,<-e,r3.hi (N+j) (by omega),J6 (KP σ),gZ,<-J5,e1]
theorem GC {α:Type} {enc:α->List AV} {l:List α} {i:Nat} {vs:List AV} {K:List (List AV)->Prop} (n:Nat) (e:α) (hn:i=n) (he:vs=enc e) (hz : ∀ x,(enc x).length=vs.length) (hi:n<l.length) (h:K ((l.set n e).map enc)):AZ (l.map enc) i 0 vs K:=by
 subst hn;exact xT e he hz hi h
theorem G5 {x:Int} {len:Nat} {K:Nat->Nat->Prop} (h:Nat) (hx:x=h) (hl:h<=len) (hk:K 0 h):BI none (some x) len K:=⟨0,h,rfl,⟨by omega,by omega,by omega⟩,by omega,hk⟩
theorem wO {x:Int} {len:Nat} {K:Nat->Nat->Prop} (a:Nat) (hx:x=a) (hl:a<=len) (hk:K a len):BI (some x) none len K:=⟨a,len,⟨by omega,by omega⟩,rfl,by omega,hk⟩
end Go.b7

namespace Go.b7
def TW (N:Nat):List JN->Bool
 | []=>true
 | .tmp t::r=>Nat.blt t N&&TW N r
 | .cell t _ _::r=>Nat.blt t N&&TW N r
theorem fP {N:Nat} {s s':St} (ho:s.own=s'.own) (kb : ∀ j,j<N->g6 s'.tm j=g6 s.tm j) : ∀ {res:List JN},TW N res=true->res.mapM (E6 s)=res.mapM (E6 s')
 | [],_=>rfl
 | .tmp t::r,h=>by
  simp only[TW,Bool.and_eq_true]at h;have:=fP ho kb h.2
  simp only[List.mapM_cons,E6,kb t (RD.1 h.1),this]
 | .cell t agg n::r,h=>by
  simp only[TW,Bool.and_eq_true]at h;have:=fP ho kb h.2
  simp only[List.mapM_cons,E6,kb t (RD.1 h.1),this,ho]
def xO (N:Nat) (fn:AFn) (tm:Tm) (K:AV->Mem->Prop) (w9:Tm) (M':Mem):Prop:=gh N w9=tm/\YU w9 M' fn.res (λ rs=>Mw rs λ v=>K v M')
theorem FC {L:Lib} {f:Nat} {fn:AFn} {vs:List AV} {tm:Tm} {M:Mem} {K:AV->Mem->Prop} (N:Nat) (hL:L f=some fn) (hp:Nat.beq vs.length fn.x5=true) (hN:(Nat.ble fn.x5 N&&(IJ N fn.body&&TW N fn.res))=true)
  (h:AA L [.code fn.body] (CR 0 vs++GP N tm) M (xO N fn tm K)):A1 L f vs tm M K:=by
 intro σ own hs;simp only[Bool.and_eq_true]at hN;obtain ⟨n1,n2,n3⟩:=hN;have n1:=Nat.le_of_ble_eq_true n1;have hp:vs.length=fn.x5:=Nat.eq_of_beq_eq_true hp;have Ig:RX σ (CR 0 vs++GP N tm) M ⟨LN (A8 σ) (CR 0 vs++GP N tm),own⟩:=⟨λ j=>Or.inr (by rw[J5];exact J6 (KP σ) j _),hs⟩;obtain ⟨n,c,s',hr,σ',w9,M',hR,hg,lu⟩:=h σ _ Ig;have Hh:Gh N (LN (A8 σ) (GP N tm)) (CR 0 (vs.map (A8 σ))) (LN (A8 σ) (CR 0 vs++GP N tm)):=by
  constructor
  ·intro j hj
   rw[dG,J6 (KP σ),J6 (KP σ)];rcases WJ j (GP N tm) (CR 0 vs) with ⟨_,e⟩|⟨hn,e⟩
   ·rw[e]
   ·rw[e,hJ hj,gY j 0 vs hn]
  ·intro j hj
   rw[J6 (KP σ),J6 (KP σ)];rcases WJ j (GP N tm) (CR 0 vs) with ⟨hn,e⟩|⟨_,e⟩
   ·have:=dF j 0 vs hn
    omega
   ·rw[e]
 obtain ⟨s,r1,r2,r3⟩:=I2 n (by simp [QR,n2]) Hh hr;obtain ⟨rs,i1,i2,i3⟩:=fO hR lu;rw[<-fP (s:=s) r2.symm r3.lo n3,i3]at i1;have key : ∃ r,H5 (rs.map (BK σ'))=A8 σ' r/\K r M':=by
  match rs,i2,i3 with
  | [],h,_=>exact ⟨.g8 [],rfl,h⟩
  | [v],h,e =>
   simp only[List.map_cons,List.map_nil,List.cons.injEq,and_true]at e;exact ⟨v,by simp only[List.map_cons,List.map_nil,H5];exact e.symm,h⟩
  | a::b::l,h,_=>exact ⟨.g8 (a::b::l),rfl,h⟩
 obtain ⟨r,k1,k2⟩:=key;refine ⟨r,s.own,σ',M',GT.intro hL (by simpa using hp) ⟨n,c,s,r1,?_,rfl⟩,?_,?_,k2⟩
 ·rw[i1,Option.map_some,k1]
 ·rw[<-r2];exact hR.sat
 ·intro j
  have e1:tg tm j=tg w9 (N+j):=by rw[J5,J5,<-hg,gX]
  rcases hR.tm (N+j) with e|e
  ·rw[e1,e];rfl
  ·rw[e1,<-e,r3.hi (N+j) (by omega),J6 (KP σ),gZ,<-J5,e1]
end Go.b7

namespace Go.b7
variable {L:Lib}
end Go.b7

namespace Go.b7
@[irreducible] def EE (a b : Nat) : Nat := (a + 18446744073709551616 - b) % 18446744073709551616
theorem SN (a b:Nat):EE a b=(a+18446744073709551616-b)%18446744073709551616:=by unfold EE;rfl
def val:List Nat->Nat
 | []=>0
 | d::l=>d+4294967296*val l
def A2 (l:List Nat):Prop := ∀ d∈l,d<4294967296
def dg (n:Nat):List Nat:=if h:n=0 then [] else n%4294967296::dg (n/4294967296)
termination_by n
decreasing_by omega
theorem EY:dg 0=[]:=by rw[dg];simp
theorem JC {n:Nat} (h:n≠0):dg n=n%4294967296::dg (n/4294967296):=by rw[dg];simp [h]
theorem I7:val []=0:=rfl
theorem P4 (d:Nat) (l:List Nat):val (d::l)=d+4294967296*val l:=rfl
theorem BP (n:Nat):val (dg n)=n:=by
 induction n using Nat.strongRecOn with
 | ind n ih =>
  by_cases h:n=0
  ·subst h;rw[EY];rfl
  ·rw[JC h,P4,ih _ (by omega)]
   omega
theorem DT (n:Nat):A2 (dg n):=by
 induction n using Nat.strongRecOn with
 | ind n ih =>
  by_cases h:n=0
  ·subst h;rw[EY];intro d hd;cases hd
  ·rw[JC h]
   intro d hd;rcases List.mem_cons.1 hd with rfl|hd
   ·omega
   ·exact ih _ (by omega) d hd
theorem A2.tail {d:Nat} {l:List Nat} (h:A2 (d::l)):A2 l:=λ x hx=>h x (List.mem_cons_of_mem _ hx)
theorem A2.head {d:Nat} {l:List Nat} (h:A2 (d::l)):d<4294967296:=h d List.mem_cons_self
theorem A2.at {l:List Nat} (h:A2 l) {i d:Nat} (hd:l[i]? = some d):d<4294967296:=h d (zM hd)
theorem A2.take {l:List Nat} (h:A2 l) (n:Nat):A2 (l.take n):=λ x hx=>h x (List.mem_of_mem_take hx)
theorem A2.drop {l:List Nat} (h:A2 l) (n:Nat):A2 (l.drop n):=λ x hx=>h x (List.mem_of_mem_drop hx)
theorem S9:A2 []:=λ_ h=>by cases h
theorem A2.append {a b:List Nat} (h:A2 a) (h':A2 b):A2 (a++b):=λ x hx=>(List.mem_append.1 hx).elim (h x) (h' x)
theorem HM {d:Nat} (h:d<4294967296):A2 [d]:=λ x hx=>by simp at hx;omega
theorem A2.set {l:List Nat} (h:A2 l) (i:Nat) {d:Nat} (hd:d<4294967296):A2 (l.set i d):=λ x hx=>by
 rcases List.mem_or_eq_of_mem_set hx with h1|h1
 ·exact h x h1
 ·omega
theorem JD (n:Nat):A2 (List.replicate n 0):=λ x hx=>by rw[(List.mem_replicate.1 hx).2];omega
theorem UC (a b:List Nat):val (a++b)=val a+4294967296^a.length*val b:=by
 induction a with
 | nil=>simp [val]
 | cons d l ih=>rw[List.cons_append,P4,P4,ih,List.length_cons,Nat.pow_succ];grind
theorem N9 (l:List Nat) (v:Nat):val (l++[v])=val l+4294967296^l.length*v:=by
 rw[UC];simp [val]
theorem E0 {l:List Nat} (h:A2 l):val l<4294967296^l.length:=by
 induction l with
 | nil=>simp [val]
 | cons d l ih =>
  have h1:=ih h.tail;have h2:=h.head;rw[P4,List.length_cons,Nat.pow_succ];omega
theorem DX {l:List Nat} {i v:Nat} (h:l[i]? = some v):val (l.take (i+1))=val (l.take i)+4294967296^i*v:=by
 have hi:=(zS h).1;rw[List.take_add_one,h,Option.toList_some,N9,List.length_take,Nat.min_eq_left (by omega)]
theorem J7 (l:List Nat) (i:Nat) (h:i<=l.length):val l=val (l.take i)+4294967296^i*val (l.drop i):=by
 have:=UC (l.take i) (l.drop i)
 rw[List.take_append_drop,List.length_take,Nat.min_eq_left h]at this;exact this
theorem ZL (n:Nat):val (List.replicate n 0)=0:=by
 induction n with
 | zero=>rfl
 | succ n ih=>rw[List.replicate_succ,P4,ih]
theorem Om {l:List Nat} (h:A2 l) (ht:l=[] \/ ∃ d,l[l.length-1]? = some d/\d≠0):dg (val l)=l:=by
 induction l with
 | nil=>exact EY
 | cons d l ih =>
  have h1:=h.head;by_cases hl:l=[]
  ·subst hl
   rcases ht with ht|⟨x,hx,fv⟩
   ·cases ht
   ·simp at hx
    subst hx;rw[P4,I7,JC (by omega),show (d+4294967296*0)/4294967296=0 by omega,EY,show (d+4294967296*0)%4294967296=d by omega]
  ·have jq : ∃ x,l[l.length-1]? = some x/\x≠0:=by
    rcases ht with ht|⟨x,hx,fv⟩
    ·cases ht
    ·refine ⟨x,?_,fv⟩
     have:l.length≠0:=λ e=>hl (List.eq_nil_of_length_eq_zero e)
     rw[List.length_cons,show l.length+1-1=(l.length-1)+1 by omega,List.getElem?_cons_succ]at hx;exact hx
   have Dd:=ih h.tail (Or.inr jq);have Hw:val l≠0:=by
    intro e;rw[e,EY]at Dd;exact hl Dd.symm
   rw[P4,JC (by omega),show (d+4294967296*val l)/4294967296=val l by omega,Dd,show (d+4294967296*val l)%4294967296=d by omega]
theorem GI {l:List Nat} (h:A2 l) {n:Nat} (hn:n<=l.length) (hz : ∀ i,n<=i->i<l.length->l[i]? = some 0) (ht:n=0 \/ ∃ d,l[n-1]? = some d/\d≠0):l.take n=dg (val l):=by
 have hv:val l=val (l.take n):=by
  have h0:l.drop n=List.replicate (l.length-n) 0:=by
   apply List.ext_getElem?;intro i;rw[List.getElem?_drop,List.getElem?_replicate];by_cases hi:n+i<l.length
   ·rw[hz (n+i) (by omega) hi,if_pos (by omega)]
   ·rw[List.getElem?_eq_none (by omega),if_neg (by omega)]
  rw[J7 l n hn,h0,ZL];omega
 rw[hv];refine (Om (h.take n) ?_).symm;rcases ht with rfl|⟨d,hd,tc⟩
 ·exact Or.inl (by simp)
 ·have k6:=(zS hd).1
  by_cases nx:n=0
  ·subst nx;exact Or.inl (by simp)
  ·refine Or.inr ⟨d,?_,tc⟩
   rw[List.length_take,Nat.min_eq_left hn,List.getElem?_take,if_pos (by omega)];exact hd
theorem OT {n k:Nat}:(dg n).length<=k↔n<4294967296^k:=by
 induction k generalizing n with
 | zero =>
  by_cases h:n=0
  ·subst h;simp [EY]
  ·rw[JC h];simp;omega
 | succ k ih =>
  by_cases h:n=0
  ·subst h;simp [EY];exact Nat.pos_of_ne_zero (by simp)
  ·rw[JC h,List.length_cons,Nat.succ_le_succ_iff,ih,Nat.pow_succ]
   rw[Nat.div_lt_iff_lt_mul (by omega)]
theorem ES {l:List Nat} (h:A2 l):(dg (val l)).length<=l.length:=OT.2 (E0 h)
theorem bI {n:Nat} (h:n≠0) : ∃ d,(dg n)[(dg n).length-1]? = some d/\d≠0:=by
 induction n using Nat.strongRecOn with
 | ind n ih =>
  rw[JC h];by_cases h2:n/4294967296=0
  ·rw[h2,EY]
   exact ⟨n%4294967296,by simp,by omega⟩
  ·obtain ⟨d,hd,tc⟩:=ih _ (by omega) h2
   refine ⟨d,?_,tc⟩;have hl:(dg (n/4294967296)).length≠0:=λ e=>by rw[List.eq_nil_of_length_eq_zero e]at hd;simp at hd
   rw[List.length_cons,show (dg (n/4294967296)).length+1-1=(dg (n/4294967296)).length-1+1 by omega,List.getElem?_cons_succ];exact hd
theorem bG {n:Nat}:dg n=[]↔n=0:=by
 constructor
 ·intro h
  by_cases h0:n=0
  ·exact h0
  ·rw[JC h0]at h;cases h
 ·rintro rfl;exact EY
theorem U1 {n:Nat} (h:n≠0):1<=(dg n).length:=by rw[JC h];simp
theorem AfJ {o:List Nat} {i v:Nat} (h:i<o.length):(o.set i v).take (i+1)=o.take i++[v]:=by
 rw[List.take_add_one,List.getElem?_set_self h,List.take_set_of_le (Nat.le_refl i)];rfl
theorem F8 {o:List Nat} {i v:Nat} (h:i<o.length):val ((o.set i v).take (i+1))=val (o.take i)+4294967296^i*v:=by
 rw[AfJ h,N9,List.length_take,Nat.min_eq_left (by omega)]
theorem PK (V p t:Nat):V+p*(t%4294967296)+p*4294967296*(t/4294967296)=V+p*t:=by
 have h:=Nat.mod_add_div t 4294967296;have:p*(t%4294967296)+p*4294967296*(t/4294967296)=p*t:=by
  rw[Nat.mul_assoc,<-Nat.mul_add,h]
 omega
theorem C7 {l:List Nat} {n:Nat} (h:l.length<=n):val (l.take n)=val l:=by rw[List.take_of_length_le h]
theorem rW (i:Nat):1<=4294967296^i:=Nat.pos_of_ne_zero (by simp)
theorem HH {l:List Nat} {i d:Nat} (h:l[i]? = some d):val (l.drop i)=d+4294967296*val (l.drop (i+1)):=by
 obtain ⟨hi,rfl⟩:=zS h;rw[List.drop_eq_getElem_cons hi,P4]
theorem ZH {a b:List Nat} (ha:A2 a) (hb:A2 b) (hl:a.length=b.length) {i:Nat} {x y:Nat} (hx:a[i]? = some x) (hy:b[i]? = some y) (he:a.drop (i+1)=b.drop (i+1)) (h:x<y):val a<val b:=by
 have hia:=(zS hx).1;have hib:=(zS hy).1;rw[J7 a i (by omega),J7 b i (by omega),HH hx,HH hy,he];have h1:=E0 (ha.take i);rw[List.length_take,Nat.min_eq_left (by omega)]at h1;generalize val (b.drop (i+1))=r;generalize 4294967296^i=p at *;have:p*(x+4294967296*r)+p<=p*(y+4294967296*r):=by
  rw[<-Nat.mul_succ];exact Nat.mul_le_mul_left p (by omega)
 omega
theorem ZI {o:List Nat} {k v old:Nat} (h:o[k]? = some old):val (o.set k v)+4294967296^k*old=val o+4294967296^k*v:=by
 have hk:=(zS h).1;have h1:val (o.set k v)=val (o.take k)+4294967296^k*(v+4294967296*val (o.drop (k+1))):=by
  rw[J7 (o.set k v) k (by simp;omega),List.take_set_of_le (Nat.le_refl k),HH (l:=o.set k v) (d:=v) (by rw[List.getElem?_set_self hk]),List.drop_set_of_lt (by omega)]
 have h2:val o=val (o.take k)+4294967296^k*(old+4294967296*val (o.drop (k+1))):=by
  rw[J7 o k (by omega),HH h]
 rw[h1,h2,Nat.mul_add,Nat.mul_add];omega
theorem WH {l:List Nat} (h:A2 l):l.take (dg (val l)).length=dg (val l):=by
 induction l with
 | nil=>rw[I7,EY];rfl
 | cons d l ih =>
  have h1:=h.head;by_cases h0:val (d::l)=0
  ·rw[h0,EY];rfl
  ·rw[JC h0,P4,show (d+4294967296*val l)/4294967296=val l by omega,show (d+4294967296*val l)%4294967296=d by omega,List.length_cons,List.take_succ_cons,ih h.tail]
theorem UD {a b:Nat} (h:(dg a).length<(dg b).length):a<b:=by
 have h1:a<4294967296^(dg a).length:=OT.1 (Nat.le_refl _);have h2 : ¬ b<4294967296^((dg b).length-1):=λ h3=>by have:=OT.2 h3;omega
 have h3:4294967296^(dg a).length<=4294967296^((dg b).length-1):=Nat.pow_le_pow_right (by omega) (by omega);omega
end Go.b7

namespace Go.b7
section
variable {K:AV->Prop} {a b:Nat} {k':IntKind}
theorem wrap_u32 (n:Nat):IntKind.u32.wrap (n:Int)=((n%4294967296:Nat):Int):=by rw[IntKind.wrap_u32];omega
theorem AgH (n:Nat):IntKind.u64.wrap (n:Int)=((n%18446744073709551616:Nat):Int):=by
 simp [IntKind.wrap,IntKind.bits,IntKind.signed]
theorem GA (h:a+b<=18446744073709551615) (hk:K (.int .u64 ((a+b:Nat):Int))):AC .add .u64 (a:Int) .u64 (b:Int) K :=
 ⟨_,by simp only[DB,if_true];rw[IntWalk.u64_in _ (by omega)],by simpa using hk⟩
theorem I8 (h:b<=a) (h2:a<=18446744073709551615) (hk:K (.int .u64 ((a-b:Nat):Int))):AC .sub .u64 (a:Int) .u64 (b:Int) K :=
 ⟨_,by simp only[DB,if_true];rw[IntWalk.u64_in _ (by omega)],by rw[show (a:Int)-b=((a-b:Nat):Int) by omega];exact hk⟩
theorem WY (h:b<=18446744073709551616) (hk:K (.int .u64 ((EE a b:Nat):Int))):AC .sub .u64 (a:Int) .u64 (b:Int) K :=
 WS (v := .int .u64 (IntKind.u64.wrap ((a:Int)-b))) (by simp only[DB,if_true]) (by
  have e:IntKind.u64.wrap ((a:Int)-b)=((EE a b:Nat):Int):=by
   rw[SN];simp only[IntKind.wrap,IntKind.bits,IntKind.signed];simp;omega
  rw[e];exact hk)
theorem PD (h:a*b<=18446744073709551615) (hk:K (.int .u64 ((a*b:Nat):Int))):AC .mul .u64 (a:Int) .u64 (b:Int) K :=
 ⟨_,by simp only[DB,if_true];rw[<-Int.natCast_mul,IntWalk.u64_in _ (by omega)],hk⟩
theorem WW (h:0<b) (h2:a<=18446744073709551615) (hk:K (.int .u64 ((a/b:Nat):Int))):AC .quo .u64 (a:Int) .u64 (b:Int) K:=by
 refine ⟨_,by simp only[DB];rw[if_pos ⟨trivial,by omega⟩],?_⟩;rw[IntWalk.u64_quo _ _ ⟨by omega,by omega,by omega⟩,<-Int.natCast_ediv];exact hk
theorem UK (h:0<b) (hk:K (.int .u64 ((a%b:Nat):Int))):AC .rem .u64 (a:Int) .u64 (b:Int) K:=by
 refine ⟨_,by simp only[DB];rw[if_pos ⟨trivial,by omega⟩],?_⟩;rw[IntWalk.rem_in _ _ (by omega),<-Int.natCast_emod];exact hk
theorem AfN {k:IntKind} {n:Nat} (hn:n<=k.bits):DB .shl k (a:Int) k' (n:Int)=some (.int k (k.wrap ((a*2^n:Nat):Int))):=by
 simp only[DB];rw[if_neg (by omega),Int.toNat_natCast,Nat.min_eq_left hn];simp
theorem AfQ {k:IntKind} {n:Nat} (hn:n<=k.bits):DB .shr k (a:Int) k' (n:Int)=some (.int k ((a/2^n:Nat):Int)):=by
 simp only[DB];rw[if_neg (by omega),Int.toNat_natCast,Nat.min_eq_left hn,Int.fdiv_eq_ediv_of_nonneg _ (Int.le_of_lt (Int.pow_pos (by omega)))];simp
theorem Z2 {k:IntKind} {n:Nat} (hn:n<=k.bits) (hk:K (.int k (k.wrap ((a*2^n:Nat):Int)))):AC .shl k (a:Int) k' (n:Int) K:=⟨_,AfN hn,hk⟩
theorem PF {k:IntKind} {n:Nat} (hn:n<=k.bits) (hk:K (.int k ((a/2^n:Nat):Int))):AC .shr k (a:Int) k' (n:Int) K:=⟨_,AfQ hn,hk⟩
theorem OK (h:a<=4294967295) (hk:K (.int .u64 ((a*4294967296:Nat):Int))):AC .shl .u64 (a:Int) k' 32 K:=by
 refine Z2 (n:=32) (by decide) ?_;rw[AgH,show a*2^32%18446744073709551616=a*4294967296 by omega];exact hk
theorem FD (hk:K (.int .u64 ((a/4294967296:Nat):Int))):AC .shr .u64 (a:Int) k' 32 K:=PF (n:=32) (by decide) hk
theorem WX (hk:K (.int .u64 ((a/9223372036854775808:Nat):Int))):AC .shr .u64 (a:Int) k' 63 K:=PF (n:=63) (by decide) hk
theorem xG (hk:K (.int .u64 ((a/4:Nat):Int))):AC .shr .u64 (a:Int) k' 2 K:=PF (n:=2) (by decide) hk
theorem xF (hk:K (.int .u32 ((a/65536:Nat):Int))):AC .shr .u32 (a:Int) k' 16 K:=PF (n:=16) (by decide) hk
theorem xH (hk:K (.int .u32 ((a/256:Nat):Int))):AC .shr .u32 (a:Int) k' 8 K:=PF (n:=8) (by decide) hk
theorem xD (hk:K (.int .u32 ((a/2:Nat):Int))):AC .shr .u32 (a:Int) k' 1 K:=PF (n:=1) (by decide) hk
theorem eI (w n:Nat):(BitVec.ofInt w (n:Int)).toNat=n%2^w:=by rw[BitVec.toNat_ofInt];omega
theorem Yn {n x y:Nat} (hx:x%2^n=0) (hy:y<2^n):x ||| y=x+y:=by
 have e:x=2^n*(x/2^n):=by have:=Nat.mod_add_div x (2^n);omega
 rw[e,<-Nat.two_pow_add_eq_or_of_lt hy]
theorem Z1 {k:IntKind} (n:Nat) (hx:a%2^n=0) (hy:b<2^n) (h:a+b<2^k.bits) (hw:k.wrap ((a+b:Nat):Int)=((a+b:Nat):Int)) (hk:K (.int k ((a+b:Nat):Int))):AC .or k (a:Int) k (b:Int) K:=by
 refine WS (v := .int k (k.wrap (BitVec.ofInt k.bits (a:Int) ||| BitVec.ofInt k.bits (b:Int)).toNat)) (by simp only[DB,if_true]) ?_;rw[BitVec.toNat_or,eI,eI,Nat.mod_eq_of_lt (by omega),Nat.mod_eq_of_lt (by omega),Yn hx hy,hw];exact hk
theorem PE (h:a%4294967296=0/\b<4294967296/\a+b<=18446744073709551615) (hk:K (.int .u64 ((a+b:Nat):Int))):AC .or .u64 (a:Int) .u64 (b:Int) K :=
 Z1 32 h.1 h.2.1 (show a+b<18446744073709551616 by omega) (IntWalk.u64_in _ (by omega)) hk
theorem iQ (h:a<=18446744073709551615) (hk:K (.int .u64 ((a%4294967296:Nat):Int))):AC .and .u64 (a:Int) .u64 4294967295 K:=by
 refine WS (v := .int .u64 (IntKind.u64.wrap (BitVec.ofInt IntKind.u64.bits (a:Int) &&& BitVec.ofInt IntKind.u64.bits 4294967295).toNat)) (by simp only[DB,if_true]) ?_;rw[BitVec.toNat_and,eI,show (BitVec.ofInt IntKind.u64.bits 4294967295).toNat=2^32-1 by decide,Nat.and_two_pow_sub_one_eq_mod,show a%2^IntKind.u64.bits=a from Nat.mod_eq_of_lt (show a<18446744073709551616 by omega),IntWalk.u64_in _ (by omega)];exact hk
theorem iP (hk:K (.int .u32 (((a+b)%4294967296:Nat):Int))):AC .add .u32 (a:Int) .u32 (b:Int) K :=
 WS (v := .int .u32 (IntKind.u32.wrap ((a:Int)+b))) (by simp only[DB,if_true]) (by rw[<-Int.natCast_add,wrap_u32];exact hk)
end
section
variable {K:Int->Prop} {n:Nat}
theorem iJ (h:n<=18446744073709551615) (hk:K (n:Int)):A0 .u64 (n:Int) K:=UG (IntWalk.u64_in _ (by omega)) hk
theorem D8 (h:n<=4294967295) (hk:K (n:Int)):A0 .u32 (n:Int) K:=UG (IntWalk.u32_in _ (by omega)) hk
theorem FW (hk:K ((n%4294967296:Nat):Int)):A0 .u32 (n:Int) K:=⟨by rw[wrap_u32];exact hk⟩
theorem wU (h:n<=255) (hk:K (n:Int)):A0 .u8 (n:Int) K:=UG (IntWalk.u8_in _ (by omega)) hk
end
theorem W3 {tb:List Nat} {n v:Nat} {K:Nat->Prop} (hv:tb[n]? = some v) (hk:K v):RB tb (n:Int) K:=⟨by omega,v,by rw[Int.toNat_natCast];exact hv,hk⟩
abbrev AL (n:Nat):List AV:=[.int .u32 (n:Int)]
theorem C0 (l:List Nat):EN (l.map AL):=RG (λ_=>by simp [CB,A4]) l
section
variable {l:List Nat} {K:List AV->Prop}
theorem WZ {n:Nat} (hD:A2 l) (hn:n<l.length) (h : ∀ e,l[n]? = some e->e<4294967296->K (AL e)):AQ (l.map AL) (n:Int) 1 K :=
 PH hn (λ_=>rfl) λ e he=>h e he (hD.at he)
theorem QB {a:Int} (hD:A2 l) (hn:0<=a/\a<l.length) (h : ∀ e,l[a.toNat]? = some e->e<4294967296->K (AL e)):AQ (l.map AL) a 1 K :=
 Z5 hn (λ_=>rfl) λ e he=>h e he (hD.at he)
theorem iM {i:Nat} (hD:A2 l) (hi:i<l.length) (h : ∀ e,l[i]? = some e->e<4294967296->K (AL e)):A5 (l.map AL) (0+((i:Int)).toNat) 0 1 K :=
 ZY (f:=AL) hi (λ_=>rfl) λ e he=>h e he (hD.at he)
theorem Q9 {i:Int} (hD:A2 l) (hi:0<=i/\i<l.length) (h : ∀ e,l[i.toNat]? = some e->e<4294967296->K (AL e)):A5 (l.map AL) (0+i.toNat) 0 1 K :=
 iN (f:=AL) hi (λ_=>rfl) λ e he=>h e he (hD.at he)
theorem E7 {i v:Nat} {KK:List (List AV)->Prop} (hi:i<l.length) (h:KK ((l.set i v).map AL)):AZ (l.map AL) (0+((i:Int)).toNat) 0 [.int .u32 (v:Int)] KK:=JA (enc:=AL) v rfl (λ_=>rfl) hi h
theorem W2 {i v:Nat} {KK:List (List AV)->Prop} (n:Nat) (hn:i=n) (hi:n<l.length) (h:KK ((l.set n v).map AL)):AZ (l.map AL) i 0 [.int .u32 (v:Int)] KK:=GC (enc:=AL) n v hn rfl (λ_=>rfl) hi h
end
end Go.b7
namespace Go.b7
variable {L:Lib}
theorem Ev.xE {f:Nat} {fn:AFn} {vs:List AV} {P:AV->Prop} (hL:L f=some fn) (hp:Nat.beq vs.length fn.x5=true) (hd:KE vs=true) (h:AA L [.code fn.body] (CR 0 vs) [] (λ tm M => ∃ r,QC fn r tm M/\P r)) (hs:fn.mc=false:=by rfl) : ∃ r,Ev L f vs r/\P r:=by
 obtain ⟨n,c,j7,hr,σ,tm,M,hR,r,hq,hP⟩:=h (λ_ _=>(0,0)) ⟨CR 0 vs,AH.emp⟩ ⟨λ j=>Or.inr (by rw[J5];exact UZ hd j),⟨(λ_ _ _ e=>by cases e),(λ_ _ _ e=>by simp [c5,c7]at e),(λ_ _ _ e=>by simp [c5,c7]at e),(λ_ _ _ _ _ _ e=>by simp [c5,c7]at e),(λ_ _ _ e=>by simp [c5,c7]at e)⟩⟩;exact ⟨r,Ev.fwd hL (BJ.1 hp) ⟨n,c,j7,hr,iX hR hq⟩ hs,hP⟩
def TU:DR->Bool
 | .x8 .. | .box .. | .alloc .. | .b8 .. | .st .. | .mk .. | .app .. | .e9 .. | .m6 .. | .kj .. | .o8 .. | .z7 .. => false
 | _=>true
def IK:BD->Bool
 | .skip=>true
 | .ops l _=>l.all λ a=>TU a.op
 | .dr c _ ss=>IK c&&ss.isEmpty
 | .scope c=>IK c
 | .seq a b=>IK a&&IK b
 | .cond _ a b=>IK a&&IK b
 | .block _ c=>IK c
 | .loop c=>IK c
 | .exit _=>true
 | .ret=>true
def PW:It->Bool
 | .code c=>IK c
 | .jx _ ss=>ss.isEmpty
 | .c9 _=>true
 | .lp c=>IK c
theorem Rb {C:Cl} {c4:List Nat} {ρ:AP->AV} {own:AH} {op:DR} {E:CG} (ho:TU op=true) (h:e8 C c4 ρ own op=some E) : ∃ v,E = .val v:=by
 cases op<;>first|(simp [TU]at ho;done)|skip
 all_goals simp only[e8]at h
 all_goals
  first
   | (simp only[Option.some.injEq]at h;exact ⟨_,h.symm⟩)
   | (simp only[Option.map_eq_some_iff]at h;obtain ⟨_,_,rfl⟩:=h;exact ⟨_,rfl⟩)
   | skip
 all_goals (repeat' split at h)
 all_goals
  first
   | (cases h;done)
   | (simp only[Option.some.injEq]at h;exact ⟨_,h.symm⟩)
   | (simp only[Option.map_eq_some_iff]at h;obtain ⟨_,_,rfl⟩:=h;exact ⟨_,rfl⟩)
theorem Zy {C:Cl} {a:AI} (ho:TU a.op=true) {s s':St} (h:CZ C a s=some s'):s'.own=s.own:=by
 unfold CZ at h;split at h
 ·cases he:e8 C a.c4 s.ev s.own a.op with
  | none=>rw[he]at h;cases h
  | some E =>
   rw[he]at h;obtain ⟨v,rfl⟩:=Rb ho he;simp only[Option.map_some,Option.some.injEq]at h;subst h;simp only[St.app];cases a.dst<;>rfl
 ·simp only[Option.some.injEq]at h
  subst h;cases a.dst<;>rfl
 ·cases h
theorem uC {C:Cl} : ∀ {l:List AI},(l.all λ a=>TU a.op)=true -> ∀ {s s':St},C9 C l s=some s'->s'.own=s.own
 | [],_,s,s',h=>by simp only[C9,Option.some.injEq]at h;rw[h]
 | a::l,ho,s,s',h=>by
  simp only[List.all_cons,Bool.and_eq_true]at ho;simp only[C9]at h;cases h1:CZ C a s with
  | none=>rw[h1]at h;cases h
  | some s1 =>
   rw[h1]at h;rw[uC ho.2 h,Zy ho.1 h1]
theorem VC {id:Nat} : ∀ {k k':List It},k.all PW=true->FI id k=some k'->k'.all PW=true
 | [],_,_,h=>by simp [FI]at h
 | it::k,k',hk,h=>by
  simp only[List.all_cons,Bool.and_eq_true]at hk;cases it with
  | c9 i =>
   simp only[FI]at h;split at h
   ·cases h;exact hk.2
   ·exact VC hk.2 h
  | code c=>simp only[FI]at h;exact VC hk.2 h
  | jx a b=>simp only[FI]at h;exact VC hk.2 h
  | lp c=>simp only[FI]at h;exact VC hk.2 h
theorem I3 {C:Cl} : ∀ (n:Nat) {k:List It},k.all PW=true -> ∀ {s s':St},run C n k s=some s'->s'.own=s.own
 | 0,k,_,s,s',h=>by simp [run]at h
 | n+1,[],_,s,s',h=>by
  simp only[run,Option.some.injEq]at h;rw[h]
 | n+1,it::k,hk,s,s',h=>by
  have dz:=hk;simp only[List.all_cons,Bool.and_eq_true]at hk;obtain ⟨hi,hk⟩:=hk;cases it with
  | c9 _=>simp only[run]at h;exact I3 n hk h
  | jx ts ss =>
   have:ss=[]:=by simpa [PW] using hi
   subst this;simp only[run]at h;rw[I3 n hk h];rfl
  | lp c=>simp only[run]at h;exact I3 n (by simp only[List.all_cons,Bool.and_eq_true];exact ⟨hi,hi,hk⟩) h
  | code c =>
   cases c with
   | skip=>simp only[run]at h;exact I3 n hk h
   | ops l d =>
    simp only[run]at h;cases h1:C9 C l s with
    | none=>rw[h1]at h;cases h
    | some s1 =>
     rw[h1]at h;rw[I3 n hk h,uC (show (l.all λ a=>TU a.op)=true from hi) h1]
   | dr c ts ss =>
    simp only[run]at h;simp only[PW,IK,Bool.and_eq_true]at hi;exact I3 n (by simp only[List.all_cons,Bool.and_eq_true];exact ⟨hi.1,hi.2,hk⟩) h
   | scope c=>simp only[run]at h;exact I3 n (by simp only[List.all_cons,Bool.and_eq_true];exact ⟨hi,hk⟩) h
   | seq a b =>
    simp only[run]at h;simp only[PW,IK,Bool.and_eq_true]at hi;exact I3 n (by simp only[List.all_cons,Bool.and_eq_true];exact ⟨hi.1,hi.2,hk⟩) h
   | cond x a b =>
    simp only[PW,IK,Bool.and_eq_true]at hi;simp only[run]at h;split at h
    ·exact I3 n (by simp only[List.all_cons,Bool.and_eq_true];exact ⟨hi.1,hk⟩) h
    ·exact I3 n (by simp only[List.all_cons,Bool.and_eq_true];exact ⟨hi.2,hk⟩) h
    ·cases h
   | block id c=>simp only[run]at h;exact I3 n (by simp only[List.all_cons,Bool.and_eq_true];exact ⟨hi,rfl,hk⟩) h
   | loop c=>simp only[run]at h;exact I3 n (by simp only[List.all_cons,Bool.and_eq_true];exact ⟨hi,hi,hk⟩) h
   | exit id =>
    simp only[run]at h;split at h
    ·rename_i k' he
     exact I3 n (VC hk he) h
    ·cases h
   | ret =>
    simp only[run,Option.some.injEq]at h;rw[h]
def xP (fn:AFn) (r:AV) (tm:Tm) (_M:Mem):Prop := ∃ rs,QX tm fn.res=some rs/\H5 rs=r
def XN:AV->Bool
 | .g8 vs=>KE vs
 | v=>QH v
theorem lH {σ:FG} {v:AV} (h:XN v=true):A8 σ v=v:=by
 cases v with
 | g8 vs =>
  simp only[A8];congr 1;simp only[XN]at h;induction vs with
  | nil=>rfl
  | cons v r ih =>
   simp only[KE]at h;cases hv:QH v<;>simp only[hv,cond_true,cond_false]at h
   ·cases h
   ·rw[List.map_cons,ih h]
    congr 1;cases v<;>first|rfl|(simp [QH,oo]at hv;done)|skip
    rename_i cs;exact XM (σ:=σ) (v := .agg cs) hv
 | _=>exact XM (σ:=σ) h
def UN (L:Lib) (f:Nat) (vs:List AV) (r:AV):Prop:=XN r=true/\(∀ σ:FG,vs.map (A8 σ)=vs) /\ ∀ own:AH,GT L f vs own r own
theorem lF {σ:FG} : ∀ {vs:List AV},KE vs=true->vs.map (A8 σ)=vs
 | [],_=>rfl
 | v::r,h=>by
  simp only[KE]at h;cases hv:QH v<;>simp only[hv,cond_true,cond_false]at h
  ·cases h
  ·rw[List.map_cons,XM hv,lF h]
theorem xQ {f:Nat} {fn:AFn} {vs:List AV} {r:AV} (hL:L f=some fn) (hp:Nat.beq vs.length fn.x5=true) (hd:KE vs=true) (Cq:IK fn.body=true) (k6:V4 100000 fn.res=true) (hr:XN r=true) (h:AA L [.code fn.body] (CR 0 vs) [] (xP fn r)):UN L f vs r:=by
 refine ⟨hr,λ σ=>lF hd,λ own => ?_⟩;obtain ⟨n,c,j7,o7,σ,tm,M,hR,rs,Cr,he⟩:=h (λ_ _=>(0,0)) ⟨CR 0 vs,own⟩ ⟨λ j=>Or.inr (by rw[J5];exact UZ hd j),⟨(λ_ _ _ e=>by cases e),(λ_ _ _ e=>by simp [c5,c7]at e),(λ_ _ _ e=>by simp [c5,c7]at e),(λ_ _ _ _ _ _ e=>by simp [c5,c7]at e),(λ_ _ _ e=>by simp [c5,c7]at e)⟩⟩;have ho:=I3 n (by simp [PW,Cq]) o7;obtain ⟨i1,i2⟩:=fK (N:=100000) (s:=j7) hR (λ_ _=>rfl) k6 Cr;refine GT.intro hL (BJ.1 hp) ⟨n,c,j7,o7,?_,ho⟩;rw[i1,Option.map_some,sD i2,he,lH hr]
theorem J9 {f:Nat} {vs:List AV} {r:AV} {tm:Tm} {M:Mem} {K:AV->Mem->Prop} (h:UN L f vs r) (hk:K r M):A1 L f vs tm M K:=by
 intro σ own hs;refine ⟨r,own,σ,M,?_,hs,λ_=>rfl,hk⟩;rw[h.2.1 σ,lH h.1];exact h.2.2 own
end Go.b7

namespace Go.b7
open F
attribute [local irreducible] AA AF AM AC BT AQ A5 AZ BG A9 BS CN BH AU BI BR AB A1 AJ pw B1 BQ B9 CM CH BF BV BB B5
variable {L:Lib}
set_option maxHeartbeats 1000000
def C5 (a b:Int):Int:=if a<b then -1 else if b<a then 1 else 0
theorem IL {a b:Int} (h:a<b) : -1=C5 a b:=by unfold C5;rw[if_pos h]
theorem OS {a b:Int} (h:b<a):1=C5 a b:=by unfold C5;rw[if_neg (by omega),if_pos h]
theorem RH {a b:Int} (h:a=b):0=C5 a b:=by unfold C5;rw[if_neg (by omega),if_neg (by omega)]
theorem Uc (N:c6 L) (a:Int):Ev L 58 [.int .i64 a] (.bool false):=by
 refine Ev.x N.KV rfl rfl ?_;(repeat' ((first|(apply AG<;>intro hc<;>try (exfalso;omega))|apply AE)<;>conv=>whnf))
 exact G7 rfl
theorem Ud (N:c6 L) (a:Int):Ev L 59 [.int .u32 a] (.bool false):=by
 refine Ev.x N.KW rfl rfl ?_;(repeat' ((first|(apply AG<;>intro hc<;>try (exfalso;omega))|apply AE)<;>conv=>whnf))
 exact G7 rfl
theorem Pz (N:c6 L) (a b:Int):Ev L 60 [.int .i64 a,.int .i64 b] (.int .i64 (C5 a b)):=by
 refine Ev.x N.KT rfl rfl ?_;(repeat' ((first|(apply AG<;>intro hc<;>try (exfalso;omega))|apply AE|refine AD (Uc N _) ?_)<;>conv=>whnf))
 ·exact CP (IL (by omega))
 ·exact CP (OS (by omega))
 ·exact CP (RH (by omega))
theorem Qa (N:c6 L) (a b:Int):Ev L 61 [.int .u32 a,.int .u32 b] (.int .i64 (C5 a b)):=by
 refine Ev.x N.KU rfl rfl ?_;(repeat' ((first|(apply AG<;>intro hc<;>try (exfalso;omega))|apply AE|refine AD (Ud N _) ?_)<;>conv=>whnf))
 ·exact CP (IL (by omega))
 ·exact CP (OS (by omega))
 ·exact CP (RH (by omega))
theorem mO (N:c6 L) (l:List Nat) (q:Bool) (hl:l.length<=1099511627776):Ev L 62 [.sl q (l.map AL)] (.sl false (l.map AL)):=by
 cases l with
 | nil =>
  refine FX.nil N.HX (FX.x N.HX rfl rfl ?_) (FX.x N.HX rfl rfl ?_)
  ·(repeat' (apply AE<;>conv=>whnf))
   exact AW rfl (by simp [A4,EN])
  ·(repeat' (apply AE<;>conv=>whnf))
   refine ZP (enc:=AL) (l:=[]) (l':=[]) rfl (λ_=>rfl) (by simp) (by simp) ?_;(conv=>whnf)
   (repeat' ((refine C3 (λ_=>rfl) rfl ?_ ?_;(first|rfl|simp))<;>conv=>whnf))
   exact AW rfl (by simp [A4,EN])
 | cons d l =>
  refine FX.cons (FX.x N.HX rfl rfl ?_);(repeat' (apply AE<;>conv=>whnf))
  refine A3 (by simp) ?_;(conv=>whnf)
  skip
  refine ZP (enc:=AL) (l:=[]) (l':=d::l) rfl (λ_=>rfl) (by simp at hl ⊢;omega) (by simp at hl ⊢;omega) ?_;(conv=>whnf)
  (repeat' ((refine C3 (λ_=>rfl) rfl ?_ ?_;(first|rfl|simp))<;>conv=>whnf))
  exact AW rfl (by simp only[A4,true_and];exact C0 (d::l))
theorem KO (N:c6 L) (l:List Nat) (q:Bool) (hD:A2 l) (hl:l.length<=1099511627776):UN L 65 [.sl q (l.map AL)] (.sl q ((dg (val l)).map AL)):=by
 refine xQ N.FR rfl rfl rfl rfl rfl ?_;(repeat' ((first|apply AY|apply AE)<;>conv=>whnf))
 refine CK (λ n=>n) (λ(n:Nat)=>n<=l.length /\ ∀ i,n<=i->i<l.length->l[i]? = some 0) (λ n=>[(3,.int .i64 n)]) (λ_=>[]) [] [] l.length (by (conv=>whnf);exact ⟨rfl,rfl,rfl⟩) ⟨Nat.le_refl _,λ i h1 h2=>by omega⟩ ?_;intro n ⟨p1,p2⟩ ih;rcases n with _|n
 ·(repeat' ((first|(apply AG<;>intro hc<;>try (exfalso;omega))|apply AE)<;>conv=>whnf))
  refine QD (k:=0) (λ_=>rfl) (by omega) ?_;(conv=>whnf)
  refine ⟨_,rfl,?_⟩;rw[GI hD p1 p2 (Or.inl rfl)];rfl
 ·have e1:((n+1:Nat):Int)-1=n:=by omega
  (repeat' ((first|(apply AG<;>intro hc<;>try (exfalso;omega))|(apply BM;omega)|(refine QB (by assumption) ?_ (λ e he hb => ?_);omega)|apply AE)<;>conv=>whnf))
  ·rw[e1]
   exact BO [] (ih n (by omega) ⟨by omega,λ i h1 h2=>by
    by_cases h:i=n
    ·subst h
     rw[e1,Int.toNat_natCast]at he;rw[he];congr 1;omega
    ·exact p2 i (by omega) h2⟩)
  ·refine QD (k:=n+1) (λ_=>rfl) (by omega) ?_
   (conv=>whnf)
   refine ⟨_,rfl,?_⟩;rw[e1,Int.toNat_natCast]at he;rw[GI hD p1 p2 (Or.inr ⟨e,he,by omega⟩)];rfl
theorem U5 (N:c6 L) (l:List Nat) (q:Bool) (hD:A2 l) (hl:l.length<=1099511627776):Ev L 66 [.sl q (l.map AL)] (.sl false ((dg (val l)).map AL)):=by
 have hc:=ES hD;refine Ev.x N.LW rfl rfl ?_;(repeat' ((first|apply AE|refine J9 (KO N l _ hD hl) ?_|refine AD (mO N (dg (val l)) _ (by omega)) ?_)<;>conv=>whnf))
 exact AW rfl (by simp only[A4,true_and];exact C0 _)
theorem Pk {a b:Nat} (h:((dg a).length:Int)≠(dg b).length):C5 (dg a).length (dg b).length=C5 a b:=by
 rcases Nat.lt_trichotomy (dg a).length (dg b).length with h1|h1|h1
 ·have:=UD h1
  rw[<-IL (by omega),<-IL (by omega)]
 ·omega
 ·have:=UD h1
  rw[<-OS (by omega),<-OS (by omega)]
theorem PS (N:c6 L) (a b:List Nat) (q1 q2:Bool) (hA:A2 a) (hB:A2 b) (la:a.length<=1099511627776) (lb:b.length<=1099511627776):Ev L 67 [.sl q1 (a.map AL),.sl q2 (b.map AL)] (.int .i64 (C5 (val a) (val b))):=by
 have l1:=ES hA;have l2:=ES hB;have d1:=DT (val a);have d2:=DT (val b);refine Ev.x N.LS rfl rfl ?_;(repeat' ((first|(apply AG<;>intro hc<;>try (exfalso;omega))|(apply BM;omega)|apply AY|apply AE|refine J9 (KO N a _ hA la) ?_|refine J9 (KO N b _ hB lb) ?_|refine AD (Pz N _ _) ?_)<;>conv=>whnf))
 ·exact CP (Pk (by omega))
 have hlen:(dg (val a)).length=(dg (val b)).length:=by omega
 have v1:=BP (val a);have v2:=BP (val b);generalize dg (val a)=X at *;generalize dg (val b)=Y at *;refine CK (λ n=>n) (λ(n:Nat)=>n<=X.length/\X.drop n=Y.drop n) (λ n=>[(7,.int .i64 ((n:Int)-1))]) (λ_=>[]) [] [] X.length (by (conv=>whnf);exact ⟨rfl,rfl,rfl⟩) ⟨Nat.le_refl _,by rw[List.drop_of_length_le (Nat.le_refl _),List.drop_of_length_le (by omega)]⟩ ?_;intro n ⟨p1,p2⟩ ih;rcases n with _|n
 ·(repeat' ((first|(apply AG<;>intro hc<;>try (exfalso;omega))|apply AE)<;>conv=>whnf))
  rw[List.drop_zero,List.drop_zero]at p2;exact CP (RH (by rw[<-v1,<-v2,p2]))
 ·have e1:((n+1:Nat):Int)-1=n:=by omega
  rw[e1];(repeat' ((first|(apply AG<;>intro hc<;>try (exfalso;omega))|(apply BM;omega)|(refine BC (by assumption) ?_ rfl ?_;omega)|(refine WZ (by assumption) ?_ (λ e he hb => ?_);omega)|apply AE|refine AD (Qa N _ _) ?_)<;>conv=>whnf))
  ·rename_i x hx _
   rcases Nat.lt_trichotomy x e with h|h|h
   ·have:=ZH d1 d2 hlen hx he p2 h
    refine CP ?_;rw[<-IL (by omega),<-IL (by omega)]
   ·omega
   ·have:=ZH d2 d1 hlen.symm he hx p2.symm h
    refine CP ?_;rw[<-OS (by omega),<-OS (by omega)]
  ·rename_i x hx _
   refine BL [] (by (conv=>whnf);exact ⟨rfl,rfl,rfl⟩) (ih n (by omega) ⟨by omega,?_⟩);obtain ⟨i1,e1⟩:=zS hx;obtain ⟨i2,e2⟩:=zS he;rw[List.drop_eq_getElem_cons i1,List.drop_eq_getElem_cons i2,p2,e1,e2];congr 1;omega
end Go.b7

namespace Go.b7
section
variable {U V UL VL p u0 u1 u2 v1 v2 top q r:Nat}
theorem Ww (hU:U=UL+p*(u2+4294967296*top)) (hV:V=VL+p*(v2+4294967296*v1)) (hl:UL<p) (h2:u2<4294967296) (w5:0<V):U/V*v1<=top:=by
 have h1:U/V*V<=U:=Nat.div_mul_le_self U V;generalize U/V=Q at *;have h3:U<p*(4294967296*(top+1)):=by
  have:p*(u2+4294967296*top)+p<=p*(4294967296*(top+1)):=by
   rw[<-Nat.mul_succ];exact Nat.mul_le_mul_left p (by omega)
  omega
 have h4:p*(4294967296*(Q*v1))<=Q*V:=by
  have e:Q*V=Q*VL+Q*(p*v2)+p*(4294967296*(Q*v1)):=by rw[hV];grind
  omega
 have h5:p*(4294967296*(Q*v1))<p*(4294967296*(top+1)):=by omega
 have:=Nat.lt_of_mul_lt_mul_left h5
 omega
theorem Wv (hU:U=UL+p*(u2+4294967296*top)) (hV:V=VL+p*(v2+4294967296*v1)) (hl:UL<p) (hq:q*v1+r=top) (h:r*4294967296+u2<q*v2) (w5:0<V):U/V<q:=by
 rw[Nat.div_lt_iff_lt_mul w5];have e:q*V=q*VL+p*(q*v2+4294967296*(q*v1)):=by rw[hV];grind
 have h1:p*(u2+4294967296*top)+p<=p*(q*v2+4294967296*(q*v1)):=by
  rw[<-Nat.mul_succ];exact Nat.mul_le_mul_left p (by omega)
 omega
theorem Wu (h:U<4294967296*V) (hq:4294967296<=q) (w5:0<V):U/V<q:=by
 have:U/V<4294967296:=(Nat.div_lt_iff_lt_mul w5).2 h
 omega
theorem oV (hU:U=UL+p*(u2+4294967296*top)) (hV:V=VL+p*(v2+4294967296*v1)) (wo:VL<p) (h1:2147483648<=v1) (hq:q*v1+r=top) (h:q*v2<=r*4294967296+u2) (hqB:q<4294967296):q<=U/V+1:=by
 have w5:0<V:=by
  have:p*4294967296<=p*(v2+4294967296*v1):=Nat.mul_le_mul_left p (by omega)
  omega
 by_cases h0:q=0
 ·subst h0;exact Nat.zero_le _
 have e:q*V=q*VL+p*(q*v2+4294967296*(q*v1)):=by rw[hV];grind
 have h2:p*(q*v2+4294967296*(q*v1))<=p*(u2+4294967296*top):=Nat.mul_le_mul_left p (by omega);have h3:q*VL<V:=by
  have a1:q*VL<=4294967296*VL:=Nat.mul_le_mul_right _ (by omega);have a2:p*4294967296<=p*(v2+4294967296*v1):=Nat.mul_le_mul_left p (by omega);omega
 have h4:(q-1)*V<U+1:=by
  have:(q-1)*V+V=q*V:=by
   have:q=q-1+1:=by omega
   rw[<-Nat.succ_mul,Nat.succ_eq_add_one,<-this]
  omega
 have h5:q-1<=U/V:=(Nat.le_div_iff_mul_le w5).2 (by omega);omega
end
theorem lM {U V U' q:Nat} (w5:0<V) (h1:U/V<=q) (h:U'+q*V=U):q=U/V/\U'=U%V:=by
 have h2:q*V<=U:=by omega
 have h3:q<=U/V:=(Nat.le_div_iff_mul_le w5).2 h2;have h4:q=U/V:=by omega
 have:=Nat.div_add_mod U V
 rw[Nat.mul_comm,<-h4]at this;exact ⟨h4,by omega⟩
theorem lL {U V U' q P:Nat} (w5:0<V) (h2:q<=U/V+1) (yz:U'<P) (h:U'+q*V=U+P):q-1=U/V/\1<=q/\U'+V=U%V+P:=by
 have h3:U/V*V<=U:=Nat.div_mul_le_self U V;have h4:U/V<q:=by
  rcases Nat.lt_or_ge (U/V) q with h|h
  ·exact h
  ·have:q*V<=U/V*V:=Nat.mul_le_mul_right _ h
   omega
 have h6:=Nat.div_add_mod U V;rw[Nat.mul_comm]at h6;generalize U/V=Q at *;generalize U%V=R at *;obtain rfl:q=Q+1:=by omega
 rw[Nat.add_mul,Nat.one_mul]at h;exact ⟨by omega,by omega,by omega⟩
theorem ZF {u pl bw:Nat} (hu:u<4294967296) (hp:pl<4294967296) (hb:bw<=1):EE (EE u pl) bw%4294967296+pl+bw=u+4294967296*(EE (EE u pl) bw/9223372036854775808)/\EE (EE u pl) bw/9223372036854775808<=1:=by
 rw[SN,SN];omega
theorem Agc {d e bw:Nat} (hu:d<4294967296) (hp:e<4294967296) (hb:bw<=1):EE (EE d bw) e%4294967296+e+bw=d+4294967296*(EE (EE d bw) e/9223372036854775808)/\EE (EE d bw) e/9223372036854775808<=1:=by
 rw[SN,SN];omega
theorem Agb {d bw:Nat} (hu:d<4294967296) (hb:bw<=1):EE d bw%4294967296+bw=d+4294967296*(EE d bw/9223372036854775808)/\EE d bw/9223372036854775808<=1:=by
 rw[SN];omega
theorem uE {V Y X p D e bw z9 d:Nat} (h:V+Y=X+p*bw) (hd:D+e+bw=d+4294967296*z9):V+p*D+(Y+p*e)=X+p*d+p*4294967296*z9:=by
 have h2:p*D+p*e+p*bw=p*d+p*4294967296*z9:=by
  rw[<-Nat.mul_add,<-Nat.mul_add,hd,Nat.mul_add,Nat.mul_assoc]
 omega
theorem TR {a b:Nat} (ha:a<4294967296) (hb:b<4294967296):a*b<=18446744065119617025 :=
 Nat.mul_le_mul (show a<=4294967295 by omega) (show b<=4294967295 by omega)
theorem lN {X Y s:Nat} (hs:0<s):X*s/(Y*s)=X/Y/\X*s%(Y*s)/s=X%Y:=by
 refine ⟨Nat.mul_div_mul_right X Y hs,?_⟩;rw[Nat.mul_mod_mul_right,Nat.mul_div_cancel _ hs]
end Go.b7
