/-
  The walk by computation is sound: calls, regions, code, loops, functions.
-/
import Derived.Test.YtplhdlbnneoobaaGreatB6
import Derived.Calls
import Derived.Test.YtplhdlbnneoobaaGreatB4
import Derived.Test.YtplhdlbnneoobaaGreatB3
set_option linter.unusedSimpArgs false
set_option linter.unusedVariables false
set_option linter.unnecessarySimpa false
namespace Go.c4
section
variable {σ:FA} {tm:Tm} {M:Mem} {st:St} {L:Lib} {b9:List Nat}
theorem mC {own:AH} {q:Bool} {d:Nat} : ∀ {e:List AV},E7 e=true->e.mapM (snap own q d)=some e
 | [],_=>rfl
 | v::r,h=>by
  have hv:snap own q d v=some v/\E7 r=true:=by
   cases v<;>simp only[E7]at h<;>first|cases h|exact ⟨by cases d<;>rfl,h⟩
  rw[List.mapM_cons,hv.1,mC hv.2];rfl
theorem mE {own:AH} {q:Bool} {d:Nat} : ∀ {e:List AV},KH e=true->e.mapM (snap own q d)=some (e.map nl)
 | [],_=>rfl
 | v::r,h=>by
  have hv:snap own q d v=some (nl v)/\KH r=true:=by
   cases v<;>simp only[KH]at h<;>first|cases h|exact ⟨by cases d<;>rfl,h⟩
  rw[List.mapM_cons,hv.1,mE hv.2];rfl
theorem mD {own:AH} {q:Bool} {d:Nat} : ∀ {es:List (List AV)},(∀ e∈es,KH e=true)->es.mapM (λ cs:List AV=>cs.mapM (snap own q d))=some (es.map λ e=>e.map nl)
 | [],_=>rfl
 | e::r,h=>by
  rw[List.mapM_cons,mE (h e List.mem_cons_self),mD λ x hx=>h x (List.mem_cons_of_mem _ hx)];rfl
theorem mB {own:AH} {q:Bool} {d:Nat} : ∀ {es:List (List AV)},(∀ e∈es,E7 e=true)->es.mapM (λ cs:List AV=>cs.mapM (snap own q d))=some es
 | [],_=>rfl
 | e::r,h=>by
  rw[List.mapM_cons,mC (h e List.mem_cons_self),mB λ x hx=>h x (List.mem_cons_of_mem _ hx)];rfl
theorem nZ (hs:I2 σ st.own M) {q:Bool} {v:AV} {K:AV->Prop} (h:QA q M b9 v K) : ∃ v',(∀ d,snap (st.own.l9 b9) q (d+1) (A7 σ v)=some v')/\K v'/\v ≠ .any/\BO σ v=A7 σ v:=by
 cases v with
 | row key t z off len =>
  have fin : ∀ (z':Nat) (es:List (List AV)),((st.own.l9 b9) (σ key t).1).e8 (σ key t).2=some ⟨z',es⟩->z=z'->A0 es off len (λ es=>K (.sl q es)) -> ∃ v',(∀ d,snap (st.own.l9 b9) q (d+1) (A7 σ (.row key t z off len))=some v')/\K v'/\AV.row key t z off len ≠ .any/\BO σ (.row key t z off len)=A7 σ (.row key t z off len):=by
   intro z' es hb hz h;subst hz;obtain ⟨h1,h2,h3⟩:=h;refine ⟨_,λ d => ?_,h3,(by intro e;cases e),rfl⟩;simp only[A7,snap,DT,AH.get,hb];rw[if_pos ⟨h1,trivial⟩];simp only;rw[mD λ e he=>h2 e (List.mem_of_mem_drop (List.mem_of_mem_take he))];rfl
  simp only[QA]at h;split at h
  ·rename_i s z' es hm
   split at h
   ·cases hz:Nat.beq z z'<;>simp only[hz,cond_true,cond_false]at h
    cases hb:OS s b9<;>simp only[hb,cond_true,cond_false]at h;refine fin z' es ?_ (BD.1 hz) h;have q8:=hs.e8 _ _ _ (DY hm);rw[hs.site _ _ _ hm]at q8 ⊢;rw[Q9 hb];exact q8
   ·exact h.elim
  ·rename_i s rows hm
   split at h
   ·exact h.elim
   ·rename_i i
    split at h
    ·obtain ⟨z',es,g,h⟩:=h
     cases hz:Nat.beq z z'<;>simp only[hz,cond_true,cond_false]at h;exact fin z' es (hs.e8 key (i+1) (.rw z' es) (by simp [c6,hm,g])) (BD.1 hz) h
    ·rename_i b r
     cases hb:PY (b::r)<;>simp only[hb,cond_true,cond_false]at h;obtain ⟨z',es,g,h⟩:=h;cases hz:Nat.beq z z'<;>simp only[hz,cond_true,cond_false]at h;have g':c6 M key (i+1)=some (.rw z' es):=by simp [c6,hm,g]
     refine fin z' es ?_ (BD.1 hz) h;rw[Z7 (hs.low _ _ _ g' rfl) hb];exact hs.e8 key (i+1) (.rw z' es) g'
  ·exact h.elim
 | int k n=>exact ⟨_,λ d=>rfl,h,(by intro e;cases e),rfl⟩
 | bool b=>exact ⟨_,λ d=>rfl,h,(by intro e;cases e),rfl⟩
 | sl l es=>exact ⟨_,λ d=>rfl,h,(by intro e;cases e),rfl⟩
 | z9 c=>exact ⟨_,λ d=>rfl,h,(by intro e;cases e),rfl⟩
 | nil=>exact ⟨_,λ d=>rfl,h,(by intro e;cases e),rfl⟩
 | _=>exact (h:False).elim
theorem nY (hs:I2 σ st.own M) {q:Bool} : ∀ {l:List AV} {K:List AV->Prop},WH q M b9 l K -> ∃ l',(∀ d,(l.map (A7 σ)).mapM (snap (st.own.l9 b9) q (d+1))=some l')/\K l'
 | [],K,h=>⟨[],λ d=>rfl,h⟩
 | v::r,K,h=>by
  obtain ⟨v',h1,h2,_⟩:=nZ hs (show QA q M b9 v λ v'=>WH q M b9 r λ r'=>K (v'::r') from h);obtain ⟨l',h3,h4⟩:=nY hs h2;refine ⟨v'::l',λ d => ?_,h4⟩;rw[List.map_cons,List.mapM_cons,h1 d,h3 d];rfl
theorem nX (hs:I2 σ st.own M) {q:Bool} : ∀ {l:List (List AV)} {K:List (List AV)->Prop},bK q M b9 l K -> ∃ l',(∀ d,(l.map λ cs=>cs.map (A7 σ)).mapM (λ cs:List AV=>cs.mapM (snap (st.own.l9 b9) q (d+1)))=some l')/\K l'
 | [],K,h=>⟨[],λ d=>rfl,h⟩
 | v::r,K,h=>by
  obtain ⟨v',h1,h2⟩:=nY hs (show WH q M b9 v λ v'=>bK q M b9 r λ r'=>K (v'::r') from h);obtain ⟨l',h3,h4⟩:=nX hs h2;refine ⟨v'::l',λ d => ?_,h4⟩;rw[List.map_cons,List.mapM_cons,h1 d,h3 d];rfl
theorem aO {own:AH} {q:Bool} {d:Nat} {k:Nat} : ∀ {rows:List (Option (Nat × List (List AV)))} {i:Nat},(∀ j z es,rows[j]? = some (some (z,es))->(own (σ k (i+j+1)).1).e8 (σ k (i+j+1)).2=some ⟨z,es⟩ /\ ∀ e∈es,E7 e=true) ->
  (BT σ k i rows).mapM (λ cs:List AV=>cs.mapM (snap own q (d+1)))=some (OV q rows)
 | [],i,h=>rfl
 | none::r,i,h=>by
  rw[BT,List.mapM_cons,aO (i:=i+1) λ j z es hj=>by
   have:=h (j+1) z es (by simpa using hj)
   rwa [show i+(j+1)+1=i+1+j+1 by omega]at this]
  rfl
 | some (z,es)::r,i,h=>by
  rw[BT,List.mapM_cons,aO (i:=i+1) λ j z es hj=>by
   have:=h (j+1) z es (by simpa using hj)
   rwa [show i+(j+1)+1=i+1+j+1 by omega]at this]
  obtain ⟨h1,h2⟩:=h 0 z es rfl;have:snap own q (d+1) (.row (σ k (i+1)).1 (σ k (i+1)).2 z 0 es.length)=some (.sl q es):=by
   simp only[snap,DT,AH.get];rw[show (own (σ k (i+1)).1).e8 (σ k (i+1)).2=some ⟨z,es⟩ from h1];simp only[Nat.zero_add,Nat.le_refl,and_self,if_true,List.drop_zero];rw[List.take_of_length_le (Nat.le_refl _),mB h2];rfl
  rw[List.mapM_cons,this];rfl
theorem nW (hs:I2 σ st.own M) {q:Bool} {v:AV} {K:AV->Prop} (h:TN q M b9 v K) : ∃ v',snap (st.own.l9 b9) q 6 (A7 σ v)=some v'/\K v'/\v ≠ .any/\BO σ v=A7 σ v/\DB (st.own.l9 b9) q (A7 σ v)=some v':=by
 have nu:QA q M b9 v K -> ∃ v',snap (st.own.l9 b9) q 6 (A7 σ v)=some v'/\K v'/\v ≠ .any/\BO σ v=A7 σ v/\DB (st.own.l9 b9) q (A7 σ v)=some v':=by
  intro h;obtain ⟨v',h1,h2,h3,h4⟩:=nZ hs h;refine ⟨v',h1 5,h2,h3,h4,?_⟩;have:=h1 5
  cases v<;>first|exact this|exact (h:False).elim
 unfold TN at h;split at h
 ·rename_i key z off len
  split at h
  ·rename_i s z' es hm
   cases hz:Nat.beq z z'<;>simp only[hz,cond_true,cond_false]at h;cases hb:OS s b9<;>simp only[hb,cond_true,cond_false]at h;cases ho:Nat.beq off 0<;>simp only[ho,cond_true,cond_false]at h;obtain rfl:=BD.1 hz;obtain rfl:=BD.1 ho;obtain ⟨rfl,h⟩:=h;obtain ⟨l',h1,h2⟩:=nX hs h;have q8:=hs.e8 _ _ _ (DY hm);rw[hs.site _ _ _ hm]at q8;have key:snap (st.own.l9 b9) q 6 (A7 σ (.row key 0 z 0 es.length))=some (.sl q l'):=by
    simp only[A7,snap,DT,AH.get,hs.site _ _ _ hm];rw[Q9 hb,q8];simp only[A3.e8,Nat.zero_add,List.length_map,Nat.le_refl,and_self,if_true,List.drop_zero];rw[List.take_of_length_le (by simp),h1 4];rfl
   exact ⟨_,key,h2,(by intro e;cases e),rfl,key⟩
  ·rename_i s rows hm
   split at h
   ·cases hz:Nat.beq z 1<;>simp only[hz,cond_true,cond_false]at h
    obtain rfl:=BD.1 hz;obtain ⟨rfl,rfl,h1,h2⟩:=h;have q8:=hs.e8 _ _ _ (DY hm);have key:snap (st.own.l9 []) q 6 (A7 σ (.row key 0 1 0 rows.length))=some (.sl q (OV q rows)):=by
     simp only[A7,snap,DT,AH.get,AH.l9];rw[q8];simp only[A3.e8,Nat.zero_add,EO,Nat.le_refl,and_self,if_true,List.drop_zero];rw[List.take_of_length_le (by rw[EO];exact Nat.le_refl _),aO (i:=0) λ j z es hj=>⟨by
      have:=hs.e8 key (j+1) (.rw z es) (by simp [c6,hm,hj])
      simpa [A3.e8] using this,h1 z es (zM hj)⟩]
     rfl
    exact ⟨_,key,h2,(by intro e;cases e),rfl,key⟩
   ·exact h.elim
  ·exact nu h
 ·exact nu h
theorem oA (hs:I2 σ st.own M) {q:Bool} : ∀ {l:List AV} {K:List AV->Prop},bL q M b9 l K -> ∃ l',(l.map (A7 σ)).mapM (snap (st.own.l9 b9) q 6)=some l'/\K l'
 | [],K,h=>⟨[],rfl,h⟩
 | v::r,K,h=>by
  obtain ⟨v',h1,h2,_⟩:=nW hs (show TN q M b9 v λ v'=>bL q M b9 r λ r'=>K (v'::r') from h);obtain ⟨l',h3,h4⟩:=oA hs h2;refine ⟨v'::l',?_,h4⟩;rw[List.map_cons,List.mapM_cons,h1,h3];rfl
theorem bJ (hs:I2 σ st.own M) {q:Bool} {v:AV} {K:AV->Prop} (h:OW q M b9 v K) : ∃ v',DB (st.own.l9 b9) q (BB σ v)=some v'/\K v'/\v ≠ .any/\BB σ v=BO σ v:=by
 cases v with
 | agg cs =>
  simp only[OW]at h;obtain ⟨l',h1,h2⟩:=oA hs h;refine ⟨.agg l',?_,h2,(by intro e;cases e),rfl⟩;simp only[GV,DB,h1,Option.map_some]
 | j5 vs=>exact (h:False).elim
 | fn p f g cs=>exact (h:False).elim
 | any=>exact (h:False).elim
 | _ =>
  simp only[OW]at h;obtain ⟨v',h1,h2,h3,h4,h5⟩:=nW hs h;exact ⟨v',h5,h2,h3,rfl⟩
theorem bN (hr:RX σ tm M st) : ∀ {xs:List AM} {K:List AV->Prop},WJ tm M b9 xs K -> ∃ vs,(xs.map st.ev).mapM (DB (st.own.l9 b9) true)=some vs/\K vs
 | [],K,h=>⟨[],rfl,h⟩
 | x::r,K,h=>by
  obtain ⟨v',h1,h2,h3,_⟩:=bJ hr.sat (show OW true M b9 (ex tm x) λ v=>WJ tm M b9 r λ vs=>K (v::vs) from h);obtain ⟨l',h4,h5⟩:=bN hr h2;refine ⟨v'::l',?_,h5⟩;rw[List.map_cons,List.mapM_cons,hr.ev rfl h3,h1,h4];rfl
theorem Sc (hs:I2 σ st.own M) {v:AV} {K:AV->Prop} (h:WI M b9 v K) : ∃ v',M6 (st.own.l9 b9) true (BB σ v)=some v'/\K v'/\v ≠ .any/\BB σ v=BO σ v:=by
 cases v with
 | nil=>exact ⟨.nil,rfl,h,(by intro e;cases e),rfl⟩
 | _ =>
  simp only[WI]at h;obtain ⟨v',h1,h2,h3,h4⟩:=bJ hs h;exact ⟨v',h1,h2,h3,h4⟩
theorem oB (hr:RX σ tm M st) : ∀ {xs:List AM} {K:List AV->Prop},bM tm M b9 xs K -> ∃ vs,(xs.map st.ev).mapM (M6 (st.own.l9 b9) true)=some vs/\K vs
 | [],K,h=>⟨[],rfl,h⟩
 | x::r,K,h=>by
  obtain ⟨v',h1,h2,h3,_⟩:=Sc hr.sat (show WI M b9 (ex tm x) λ v=>bM tm M b9 r λ vs=>K (v::vs) from h);obtain ⟨l',h4,h5⟩:=oB hr h2;refine ⟨v'::l',?_,h5⟩;rw[List.map_cons,List.mapM_cons,hr.ev rfl h3,h1,h4];rfl
theorem SR (hr:RX σ tm M st) : ∀ {xs:List AM} {K:List AV->Prop},Q0 tm xs K -> ∃ vs,xs.map st.ev=vs.map (BB σ)/\K vs
 | [],K,h=>⟨[],rfl,h⟩
 | x::r,K,h=>by
  obtain ⟨h1,h2⟩:=VK (show fV (ex tm x) λ v=>Q0 tm r λ vs=>K (v::vs) from h);obtain ⟨vs,h3,h4⟩:=SR hr h2;exact ⟨ex tm x::vs,by rw[List.map_cons,List.map_cons,hr.ev rfl h1,h3],h4⟩
theorem eT {v:AV} (h:A1 v):A7 σ v=v:=by
 cases v<;>first|rfl|(simp only[A1]at h)
theorem eP : ∀ {l:List AV},CQ l->l.map (A7 σ)=l
 | [],_=>rfl
 | v::r,h=>by
  simp only[CQ]at h;rw[List.map_cons,eT h.1,eP h.2]
theorem eU {v:AV} (h:A1 v):BO σ v=v:=by
 cases v with
 | agg cs=>simp only[A1]at h;simp only[BO,eP h]
 | fn p f g cs=>simp only[A1]at h
 | _=>exact eT (σ:=σ) h
theorem eR : ∀ {l:List AV},CQ l->l.map (BO σ)=l
 | [],_=>rfl
 | v::r,h=>by
  simp only[CQ]at h;rw[List.map_cons,eU h.1,eR h.2]
theorem eV {v:AV} (h:A1 v):BB σ v=v:=by
 cases v with
 | j5 cs=>simp only[A1]at h;simp only[BB,eR h]
 | _=>exact eU (σ:=σ) h
theorem mS {I:List AV->Option (AV × AH)} {vs:List AV} {r:AV} (h:HO I vs=some r):A1 r:=by
 unfold HO at h;split at h
 ·split at h
  ·split at h
   ·obtain rfl:=Option.some.inj h
    assumption
   ·cases h
  ·cases h
 ·cases h
theorem Ev.clean {f:Nat} {vs:List AV} {r:AV} (h:Ev L f vs r):A1 r:=by
 obtain ⟨n,h⟩:=h;unfold G6 JC at h;split at h
 ·split at h
  ·rename_i r1 r2 h1 h2
   split at h
   ·obtain rfl:=Option.some.inj h
    exact mS h1
   ·cases h
  ·cases h
 ·exact mS h
theorem RX.put (h:RX σ tm M st) (d:Nat) {v v':AV} (e:v'=BB σ v):RX σ ((d,v)::tm) M ⟨fb st.tm d v',st.own⟩:=by
 refine ⟨λ j => ?_,h.sat⟩;simp only[tg,T3];cases hb:Nat.beq j d
 ·rw[if_neg (E2.1 hb)];exact h.tm j
 ·rw[if_pos (BD.1 hb)];exact Or.inr e
theorem mF : ∀ {cs:List AV},TA cs=true->cs.map (BB σ)=cs.map (A7 σ)
 | [],_=>rfl
 | v::r,h=>by
  simp only[TA]at h;cases hv:Z9 v<;>simp only[hv,cond_true,cond_false]at h
  ·cases h
  ·rw[List.map_cons,List.map_cons,mF h]
   cases v<;>first|rfl|(simp [Z9]at hv)
theorem xS {v:AV} (h:GD v=true):A7 σ v=v:=by cases v<;>first|rfl|(simp [GD]at h)
theorem gS : ∀ {cs:List AV},cs.all GD=true->cs.map (A7 σ)=cs
 | [],_=>rfl
 | c::r,h=>by
  simp only[List.all_cons,Bool.and_eq_true]at h;rw[List.map_cons,xS h.1,gS h.2]
theorem gT : ∀ {vs:List AV},vs.all dq=true->vs.map (BB σ)=vs
 | [],_=>rfl
 | v::r,h=>by
  simp only[List.all_cons,Bool.and_eq_true]at h;rw[List.map_cons,gT h.2];congr 1;cases v with
  | agg cs=>simp only[BB,BO,gS (show cs.all GD=true from h.1)]
  | _=>first|rfl|(simp [dq,GD]at h)
theorem Nl {r:AV} (hc:A1 r) (hf:HE r):BB σ (ru r)=ru r:=by
 cases r with
 | agg cs =>
  simp only[ru,BB,BO];congr 1;rw[List.map_map];refine List.map_congr_left λ c oh => ?_
  have:=hf c oh
  cases c<;>first|rfl|exact this.elim
 | _=>first|rfl|exact hf.elim
theorem Nh {c:AV} (h:A1 c):A7 σ (FO c)=FO c:=by
 cases c<;>first|(simp only[FO,A7];done)|(simp only[A1]at h;done)
theorem Nj {r:AV} (h:A1 r) (hd:O2 r):BB σ (I9 r)=I9 r:=by
 cases r with
 | agg cs =>
  simp only[A1]at h;have : ∀ cs:List AV,CQ cs->(GS cs).map (A7 σ)=GS cs:=by
   intro cs;induction cs with
   | nil=>intro _;simp [GS]
   | cons c l ih =>
    intro h;simp only[CQ]at h;rw[GS,List.map_cons,ih h.2,Nh h.1]
  simp only[I9,BB,BO,this cs h]
 | j5=>exact hd.elim
 | fn=>exact hd.elim
 | _=>first|(simp only[I9,FO,BB,BO,A7];done)|(simp only[A1]at h;done)
theorem Nk {r:AV} (h:A1 r) (hd:HE r\/O2 r):BB σ (JU r)=JU r:=by
 by_cases hf:HE r
 ·rw[ZR hf];exact Nl h hf
 ·rw[ZQ hf];exact Nj h (hd.resolve_left hf)
theorem kL : ∀ {l:List AV},VN l=true->l.map (BB σ)=l
 | [],_=>rfl
 | .int _ _::r,h=>by
  rw[List.map_cons,kL (l:=r) h];rfl
theorem sO {K:AV->Mem->Prop} (hr:RX σ tm M st) {op:DL} (h:XE L tm M b9 K op):BH L tm b9 K op st\/(∃ f xs,op = .call f xs)\/(∃ f xs,op = .g6 f xs)\/(∃ x xs,op = .n9 x xs)\/(∃ f xs,op = .k9 f xs)\/(∃ s f xs,op = .o6 s f xs) \/ ∃ s f xs,op = .y6 s f xs:=by
 cases op with
 | call f xs=>exact Or.inr (Or.inl ⟨_,_,rfl⟩)
 | g6 f xs=>exact Or.inr (Or.inr (Or.inl ⟨_,_,rfl⟩))
 | n9 x xs=>exact Or.inr (Or.inr (Or.inr (Or.inl ⟨_,_,rfl⟩)))
 | k9 f xs=>exact Or.inr (Or.inr (Or.inr (Or.inr (Or.inl ⟨_,_,rfl⟩))))
 | o6 s f xs=>exact Or.inr (Or.inr (Or.inr (Or.inr (Or.inr (Or.inl ⟨_,_,_,rfl⟩)))))
 | y6 s f xs=>exact Or.inr (Or.inr (Or.inr (Or.inr (Or.inr (Or.inr ⟨_,_,_,rfl⟩)))))
 | jl s n x v=>exact Or.inl (tE hr h)
 | az s z b x y=>exact Or.inl (sB hr h)
 | mr ne x=>exact Or.inl (sR hr h)
 | bad=>exact (show False from h).elim
 | nm x=>exact Or.inl (sY hr h)
 | dd x=>exact Or.inl (sI hr h)
 | jn s z b x y=>exact Or.inl (sC hr h)
 | jm s z b x y=>exact Or.inl (rW hr h)
 | ct tb x=>exact Or.inl (tC hr h)
 | kf p f xs=>exact Or.inl (sV hr h)
 | b7 x=>exact Or.inl (sX hr h)
 | w9 s z=>exact Or.inl (tG hr h)
 | pick c a b=>exact Or.inl (sZ hr h)
 | bin o x y=>exact Or.inl (sE hr h)
 | beq ne x y=>exact Or.inl (sD hr h)
 | mv ne n x y=>exact Or.inl (rU hr h)
 | un o x=>exact Or.inl (tF hr h)
 | conv k x=>exact Or.inl (sJ hr h)
 | box s x=>exact Or.inl (sF hr h)
 | alloc s z=>exact Or.inl (rV hr h)
 | build z ps=>exact Or.inl (sH hr h)
 | c9 s z ps=>exact Or.inl (sG hr h)
 | a5 x o=>exact Or.inl (sM hr h)
 | ja x o n a=>exact Or.inl (sN hr h)
 | a9 a z x i=>exact Or.inl (sP hr h)
 | idx l z a x i=>exact Or.inl (sQ hr h)
 | ld a n x=>exact Or.inl (sS hr h)
 | st n x v=>exact Or.inl (dL hr h)
 | mk s z b ze l c=>exact Or.inl (sU hr h)
 | dc z x lo hi=>exact Or.inl (tD hr h)
 | ext x i=>exact Or.inl (sL hr h)
 | len x=>exact Or.inl (sT hr h)
 | mm m xs=>exact Or.inl (sW hr h)
 | app s z b x y=>exact Or.inl (rX hr h)
 | jq z x y=>exact Or.inl (sK hr h)
theorem W9 {K:AV->Mem->Prop} (hr:RX σ tm M st) {op:DL} {d:Option Nat} {g:Option (Nat × Bool)} {l:List AI} {k:List It} {Q:St->Prop} (h:XE L tm M b9 K op) (hg:E4 st g=some true)
  (hk : ∀ σ' v v' M' l8,K v M'->v'=BB σ' v->RX σ' tm M' ⟨st.tm,l8⟩->AO L l k ⟨((⟨st.tm,l8⟩:St).dst d v').tm,l8⟩ Q):AO L (⟨d,op,g,b9⟩::l) k st Q:=by
 rcases sO hr h with ⟨E,σ',v,M',h1,h2,h3,h4⟩|⟨f,xs,rfl⟩|⟨f,xs,rfl⟩|⟨x,xs,rfl⟩|⟨f,xs,rfl⟩|⟨s,f,xs,rfl⟩|⟨s,f,xs,rfl⟩
 ·rw[qO hg h1,XD]
  have:=hk σ' v _ M' _ h2 h3 h4
  cases d<;>exact this
 ·simp only[XE]at h
  obtain ⟨vs,h1,r,h2,h3⟩:=bN hr h;rw[qF hg h1 h2];have:=hk σ r r M st.own h3 (eV h2.clean).symm hr
  cases d<;>exact this
 ·simp only[XE]at h
  obtain ⟨vs,h1,h2⟩:=SR hr h;obtain ⟨r,l8,σ',M',h3,h4,h5,h6⟩:=h2 σ st.own hr.sat;rw[<-h1]at h3;rw[qG hg h3];have:=hk σ' r _ M' l8 h6 rfl ⟨λ j=>by rw[h5 j];exact hr.tm j,h4⟩
  cases d<;>exact this
 ·simp only[XE]at h
  split at h
  ·rename_i f g' e1
   obtain ⟨h0,h⟩:=h;obtain ⟨vs,h1,r,h2,h3⟩:=bN hr h;have e2:=hr.ev e1 (by intro e;cases e);rw[aR,List.map_nil,h0]at e2;rw[qH hg e2 h1 h2];have:=hk σ r r M st.own h3 (eV h2.clean).symm hr
   cases d<;>exact this
  ·rename_i f g' cs e1
   cases ho:TA cs<;>simp only[ho,cond_true,cond_false]at h;obtain ⟨h0,h⟩:=h;obtain ⟨vs,h1,h2⟩:=SR hr h;rw[GE]at h2;obtain ⟨r,l8,σ',M',h3,h4,h5,h6⟩:=h2 σ st.own hr.sat;rw[List.map_append,<-h1,mF (σ:=σ) ho]at h3;have e2:=hr.ev e1 (by intro e;cases e);rw[aR,h0]at e2;rw[qK hg e2 h3];have:=hk σ' r _ M' l8 h6 rfl ⟨λ j=>by rw[h5 j];exact hr.tm j,h4⟩
   cases d<;>exact this
  ·exact h.elim
 ·simp only[XE]at h
  obtain ⟨vs,h1,h2⟩:=SR hr h;cases ho:vs.all dq<;>simp only[ho,cond_true,cond_false]at h2;obtain ⟨r,h3,h4,h5⟩:=h2;have e1:xs.map st.ev=vs:=by rw[h1];exact gT ho
  rw[qI hg (by rw[e1];exact ho) (by rw[e1];exact h3) h4];have:=hk σ (JU r) (JU r) M st.own h5 (Nk h3.clean h4).symm hr
  cases d<;>exact this
 ·simp only[XE]at h
  cases zz:EC s<;>simp only[zz,cond_true,cond_false]at h;obtain ⟨vs,h1,z,es,n,h2,rfl,h3⟩:=oB hr h;obtain ⟨k',g1,g2,g3⟩:=FY h3;refine qJ hg h1 h2 ?_;rw[XD];have:=hk (CX σ k' λ_=>(s,st.own.g7 s)) _ (.row s (st.own.g7 s) z 0 es.length) _ _ g3 (by simp only[CS,BP]) (hr.al (q:=s) g1 g2 (.rw z es) trivial rfl (λ_=>zz))
  cases d<;>exact this
 ·simp only[XE]at h
  obtain ⟨vs,h1,h2⟩:=SR hr h;split at h2
  ·rename_i key rest
   cases hi:VN rest<;>simp only[hi,cond_true,cond_false]at h2;obtain ⟨cells,cg,kd,n,g1,g2,g3,g4,g5⟩:=h2;have cb:=hr.sat.site _ _ _ g1;have q8:=hr.sat.e8 _ _ _ (DY g1);rw[cb]at q8;simp only[A3.e8,H2 g2]at q8;have u6:xs.map st.ev = .ptr s (σ key 0).2 0 0::rest:=by
    rw[h1,List.map_cons,DU,cb,kL hi]
   have hE:=g4 (σ key 0).2 (st.own s) q8;refine qL hg (by rw[u6];exact hE) ?_;rw[XD];have:=hk σ (.int kd n) (.int kd n) _ _ g5 rfl (hr.Cv g1 trivial (.bx cg) trivial (λ h=>by cases h))
   simp only[A3.e8,H2 g3]at this;cases d<;>exact this
  ·exact h2.elim
theorem Km (hr:RX σ tm M st) {g:Nat} {w:Bool} {b:Bool} (e:tg tm g = .bool b):E4 st (some (g,w))=some (b == w):=by
 rcases hr.tm g with h|h
 ·rw[e]at h;cases h
 ·rw[e]at h
  simp only[E4,h,F6]
theorem Kn (hr:RX σ tm M st) {g:Nat} {w:Bool} (e:tg tm g = .j5 []):E4 st (some (g,w))=some false:=by
 rcases hr.tm g with h|h
 ·rw[e]at h;cases h
 ·rw[e]at h
  simp only[E4,h,HB,List.map_nil]
theorem cA {key:Nat} : ∀ (tm:Tm) (j:Nat),tg (ya key tm) j = .any\/tg (ya key tm) j=tg tm j
 | [],_=>Or.inl rfl
 | (i,v)::r,j=>by
  simp only[ya];cases hc:OG key v<;>cases hb:Nat.beq j i;all_goals simp only[cond_true,cond_false,tg,hb]
  ·exact cA r j
  ·exact Or.inr trivial
  ·exact cA r j
  ·exact Or.inl trivial
theorem Ru {v:AV} {K:Tm->Prop} (h:xk v tm K) : ∃ w3,(∀ j,tg w3 j = .any\/tg w3 j=tg tm j)/\K w3:=by
 unfold xk at h;split at h
 ·rw[SU]at h
  exact ⟨_,λ j=>cA _ j,h⟩
 ·exact ⟨_,λ j=>Or.inr rfl,h⟩
theorem dN {k:List It} {Q:Tm->Mem->Prop} : ∀ {l:List AI} {K:Tm->Mem->Prop} {tm:Tm} {M:Mem},XO L l K tm M->(∀ w3 M',K w3 M'->AA L k w3 M' Q)->cN L l k tm M Q
 | [],K,tm,M,h,hk=>λ σ st hr=>qM.2 (hk tm M h σ st hr)
 | o::l,K,tm,M,h,hk=>by
  intro σ st hr;have h:XI L o (XO L l) K tm M:=h;have ih : ∀ w3 M',XO L l K w3 M'->cN L l k w3 M' Q:=λ w3 M' h'=>dN h' hk
  have some_ : ∀ (d:Nat) (op:DL) (g:Option (Nat × Bool)) (b9:List Nat),E4 st g=some true->XE L tm M b9 (λ v M=>XO L l K ((d,v)::tm) M) op->AO L (⟨some d,op,g,b9⟩::l) k st (SQ Q):=by
   intro d op g b9 hg hx;refine W9 hr hx hg ?_;intro σ' v v' M' l8 h1 h2 h3;exact ih _ _ h1 σ' _ (h3.put d h2)
  have vz : ∀ (d:Nat) (u:AV) (op:DL) (b9:List Nat),XE L tm M b9 (λ v M=>xk u tm λ tm=>XO L l K ((d,v)::tm) M) op->AO L (⟨some d,op,none,b9⟩::l) k st (SQ Q):=by
   intro d u op b9 hx;refine W9 hr hx rfl ?_;intro σ' v v' M' l8 h1 h2 h3;obtain ⟨w3,g1,g2⟩:=Ru h1;exact ih _ _ g2 σ' _ ((show RX σ' w3 M' ⟨st.tm,l8⟩ from ⟨λ j=>(g1 j).elim Or.inl λ e=>by rw[e];exact h3.tm j,h3.sat⟩).put d h2)
  have none_ : ∀ (op:DL) (g:Option (Nat × Bool)) (b9:List Nat),E4 st g=some true->XE L tm M b9 (λ_ M=>XO L l K tm M) op->AO L (⟨none,op,g,b9⟩::l) k st (SQ Q):=by
   intro op g b9 hg hx;refine W9 hr hx hg ?_;intro σ' v v' M' l8 h1 h2 h3;exact ih _ _ h1 σ' _ h3
  have uc : ∀ (d:Option Nat) (op:DL) (g:Option (Nat × Bool)) (b9:List Nat),E4 st g=some false->(match d with|some d=>XO L l K ((d,.j5 [])::tm) M|none=>XO L l K tm M)->AO L (⟨d,op,g,b9⟩::l) k st (SQ Q):=by
   intro d op g b9 hg hx;rw[qN hg];cases d with
   | none=>exact ih _ _ hx σ _ hr
   | some d=>exact ih _ _ hx σ _ (hr.put d rfl)
  obtain ⟨d,op,g,b9⟩:=o;cases g with
  | none =>
   cases d with
   | none=>exact none_ op none b9 rfl h
   | some d =>
    cases op with
    | app s z b x y=>exact vz d (ex tm x) (.app s z b x y) b9 h
    | _=>exact some_ d _ none b9 rfl h
  | some gw =>
   obtain ⟨g,w⟩:=gw;have h:(match tg tm g with
    | .bool b=>fB (b == w) λ c=>match c,d with
     | true,some d=>XE L tm M b9 (λ v M=>XO L l K ((d,v)::tm) M) op
     | true,none=>XE L tm M b9 (λ_ M=>XO L l K tm M) op
     | false,some d=>XO L l K ((d,.j5 [])::tm) M
     | false,none=>XO L l K tm M
    | .j5 []=>match d with
     | some d=>XO L l K ((d,.j5 [])::tm) M
     | none=>XO L l K tm M
    | _=>False):=by cases d<;>cases op<;>exact h
   split at h
   ·rename_i b e
    rw[NN]at h;have hg:=Km hr (w:=w) e;cases hb:(b == w)<;>rw[hb]at h hg
    ·exact uc d op _ b9 hg (by cases d<;>exact h)
    ·cases d with
     | none=>exact none_ op _ b9 hg h
     | some d=>exact some_ d op _ b9 hg h
   ·rename_i e
    exact uc d op _ b9 (Kn hr e) (by cases d<;>exact h)
   ·exact h.elim
theorem dM {Q:Tm->Mem->Prop} : ∀ {n:Nat} {k:List It} {tm:Tm} {M:Mem},XK L Q n k tm M->AA L k tm M Q
 | 0,k,tm,M,h=>h
 | n+1,[],tm,M,h=>λ σ st hr=>pZ.2 ⟨σ,tm,M,hr,h⟩
 | n+1,it::k,tm,M,h=>by
  have h:XS L Q (XK L Q n) (it::k) tm M:=h;have ih : ∀ k tm M,XK L Q n k tm M->AA L k tm M Q:=λ k tm M h=>dM h
  intro σ st hr;cases it with
  | e8 id=>exact pR.2 (ih _ _ _ h σ st hr)
  | iz ts ss =>
   simp only[XS,Lx,SU]at h;cases ss with
   | cons s r=>exact h.elim
   | nil =>
    refine pV.2 (ih _ _ _ h σ _ ⟨λ j => ?_,hr.sat⟩);rw[TW,RJ,dV,XL,Bool.false_or];cases hc:ts.contains j
    ·simp only[Bool.false_eq_true,if_false,cond_false]
     exact hr.tm j
    ·exact Or.inl rfl
  | lp c=>exact h σ st hr
  | code c =>
   cases c with
   | skip=>exact qE.2 (ih _ _ _ h σ st hr)
   | ops l d=>exact qA.2 (dN h (λ w3 M' h'=>ih _ _ _ h') σ st hr)
   | dr c ts ss=>exact pU.2 (ih _ _ _ h σ st hr)
   | scope c=>exact qC.2 (ih _ _ _ h σ st hr)
   | seq a b=>exact qD.2 (ih _ _ _ h σ st hr)
   | cond x a b =>
    simp only[XS]at h;split at h
    ·rename_i b' e
     rw[NN]at h;rw[pT (hr.ev e (by intro e;cases e))];cases b'
     ·simpa using ih _ _ _ h σ st hr
     ·simpa using ih _ _ _ h σ st hr
    ·exact h.elim
   | block id c=>exact pS.2 (ih _ _ _ h σ st hr)
   | loop c=>exact pX.2 (cM.1 (h σ st hr))
   | exit id =>
    simp only[XS]at h;split at h
    ·rename_i k' e
     exact (pW e).2 (ih _ _ _ h σ st hr)
    ·exact h.elim
   | ret=>exact qB.2 ⟨σ,tm,M,hr,h⟩
theorem Pp (hr:RX σ tm M st) {r:ID} {K:AV->Prop} (h:TJ tm M r K) : ∃ v,EQ st r=some (BB σ v)/\K v/\BB σ v=BO σ v:=by
 cases r with
 | tmp t =>
  simp only[TJ]at h;obtain ⟨h1,h2,h3⟩:=jL (σ:=σ) h;refine ⟨_,?_,h3,h2⟩;rcases hr.tm t with e|e
  ·exact absurd e h1
  ·simp only[EQ,e]
   cases hv:tg tm t<;>rw[hv]at h h1<;>first|rfl|exact (h:False).elim
 | cell t agg n =>
  simp only[TJ]at h;split at h
  ·rename_i key i j e
   split at h
   ·rename_i s cs hm
    cases hi:Nat.beq i 0<;>simp only[hi,cond_true,cond_false]at h;obtain rfl:=BD.1 hi;split at h
    ·rename_i ds hp
     rw[GE]at h;rcases hr.tm t with e'|e'
     ·rw[e]at e';cases e'
     ·have hs:=hr.sat.site _ _ _ hm
      have q8:=hr.sat.e8 _ _ _ (DY hm);rw[hs]at q8;have flat : ∀ v,H6 agg (ds.map (A7 σ))=some (BB σ v)->EQ st (.cell t agg n)=some (BB σ v):=by
       intro v hv;simp only[EQ,e',e,DU,AH.kb,AH.get,hs,q8,A3.e8,List.getElem?_cons_zero,TC hp,hv]
      cases agg
      ·simp only[kg]at h
       split at h
       ·rename_i c
        obtain ⟨_,h1,h2⟩:=jM (σ:=σ) h;refine ⟨c,flat c (by rw[h1];rfl),h2,?_⟩;rw[h1];cases c<;>first|rfl|exact (h:False).elim
       ·exact h.elim
      ·exact ⟨.agg ds,flat _ rfl,h,rfl⟩
    ·exact h.elim
   ·exact h.elim
  ·exact h.elim
theorem aL (hr:RX σ tm M st) : ∀ {l:List ID} {K:List AV->Prop},V4 tm M l K -> ∃ vs,l.mapM (EQ st)=some (vs.map (BB σ))/\K vs/\vs.map (BB σ)=vs.map (BO σ)
 | [],K,h=>⟨[],rfl,h,rfl⟩
 | r::l,K,h=>by
  obtain ⟨v,h1,h2,h3⟩:=Pp hr (show TJ tm M r λ v=>V4 tm M l λ vs=>K (v::vs) from h);obtain ⟨vs,h4,h5,h6⟩:=aL hr h2;exact ⟨v::vs,by rw[List.mapM_cons,h1,h4];rfl,h5,by rw[List.map_cons,List.map_cons,h3,h6]⟩
theorem nV (hs:I2 σ st.own M) {q:Bool} : ∀ {l:List AV} {K:List AV->Prop},bI q M l K -> ∃ l',(l.map (BB σ)).mapM (DB st.own q)=some l'/\K l' /\ ∀ v∈l,BB σ v=BO σ v
 | [],K,h=>⟨[],rfl,h,λ v hv=>by cases hv⟩
 | v::r,K,h=>by
  obtain ⟨v',h1,h2,_,h0⟩:=bJ hs (show OW q M [] v λ v'=>bI q M r λ r'=>K (v'::r') from h);obtain ⟨l',h3,h4,h5⟩:=nV hs h2;refine ⟨v'::l',?_,h4,λ u hu => ?_⟩
  ·rw[List.map_cons,List.mapM_cons,show DB st.own q (BB σ v)=some v' from h1,h3];rfl
  ·rcases List.mem_cons.1 hu with rfl|hu
   ·exact h0
   ·exact h5 u hu
theorem Sf {own:AH} {q:Bool} {v v':AV} (h:DB own q v=some v'):OX own q v=some v':=by
 cases v with
 | j5 vs=>simp [DB,snap]at h
 | _=>exact h
theorem Nq {f:AV->Option AV} {x y:AV} {r l':List AV} (h:(x::y::r).mapM f=some l') : ∃ a b c,l'=a::b::c:=by
 rw[List.mapM_cons,List.mapM_cons]at h;cases hx:f x with
 | none=>rw[hx]at h;cases h
 | some a =>
  cases hy:f y with
  | none=>rw[hx,hy]at h;cases h
  | some b =>
   cases hr:r.mapM f with
   | none=>rw[hx,hy,hr]at h;cases h
   | some c =>
    rw[hx,hy,hr]at h;exact ⟨a,b,c,(Option.some.inj h).symm⟩
theorem dI {fn:AFn} {r:AV} (hr:RX σ tm M st) (h:OC fn r tm M):RU fn r st:=by
 unfold OC at h;obtain ⟨vs,h1,h2,h3⟩:=aL hr h;obtain ⟨l',h4,h5,h6⟩:=nV hr.sat h2;unfold RU;rw[h1,Option.map_some,Option.bind_some];match vs,l',h4,h5 with
 | [],l',h4,h5 =>
  obtain rfl:=Option.some.inj h4;obtain ⟨e,hc⟩:=h5;exact ⟨by rw[<-e];rfl,hc⟩
 | [v],l',h4,h5 =>
  rw[List.map_cons,List.map_nil,List.mapM_cons]at h4;cases hv:DB st.own false (BB σ v) with
  | none=>rw[hv]at h4;cases h4
  | some v' =>
   rw[hv]at h4;obtain rfl:=Option.some.inj h4;obtain ⟨e,hc⟩:=h5;exact ⟨by rw[<-e];exact Sf hv,hc⟩
 | v::u::w,l',h4,h5 =>
  obtain ⟨a,b,c,rfl⟩:=Nq (show List.mapM (DB st.own false) (BB σ v::BB σ u::w.map (BB σ))=some l' from h4);obtain ⟨e,hc⟩:=h5;refine ⟨?_,hc⟩;rw[<-e];have h4:List.mapM (DB st.own false) (BB σ v::BB σ u::w.map (BB σ))=some (a::b::c):=h4;show Option.map AV.j5 (List.mapM (DB st.own false) (BB σ v::BB σ u::w.map (BB σ)))=_;rw[h4];rfl
def OH:AV->Bool
 | .agg cs=>DW cs
 | v=>nu v
def I6:List AV->Bool
 | []=>true
 | v::r=>bif OH v then I6 r else false
theorem U6 {v:AV} (h:OH v=true):BB σ v=v:=by
 cases v with
 | agg cs=>simp only[OH]at h;simp only[BB,BO,H2 h]
 | _=>first|rfl|cases h
theorem SD {σ:FA} : ∀ {vs:List AV} {i:Nat},I6 vs=true -> ∀ j,e9 (CH i vs) j=BB σ (e9 (CH i vs) j)
 | [],_,_,_=>rfl
 | v::r,i,h,j=>by
  simp only[I6]at h;cases hv:OH v<;>simp only[hv,cond_true,cond_false]at h
  ·cases h
  ·simp only[Nv,TZ]
   split
   ·exact (U6 hv).symm
   ·exact SD h j
theorem E9.x {f:Nat} {fn:AFn} {vs:List AV} {r:AV} (hL:L f=some fn) (hp:Nat.beq vs.length fn.v9=true) (hd:I6 vs=true) (h:AA L [.code fn.body] (CH 0 vs) [] (OC fn r)):E9 L f vs r:=by
 refine E9.fwd hL (BD.1 hp) (pY (h (λ_ _=>(0,0)) ⟨CH 0 vs,AH.emp⟩ ⟨λ j=>Or.inr ?_,?_⟩) ?_)
 ·rw[IW];exact SD hd j
 ·exact ⟨(λ_ _ _ e=>by cases e),(λ_ _ _ e=>by simp [c6,c7]at e),(λ_ _ _ e=>by simp [c6,c7]at e),(λ_ _ _ _ _ _ e=>by simp [c6,c7]at e),(λ_ _ _ e=>by simp [c6,c7]at e)⟩
 ·rintro s ⟨σ,tm,M,hr,hq⟩
  exact dI hr hq
theorem Ev.x {f:Nat} {fn:AFn} {vs:List AV} {r:AV} (hL:L f=some fn) (hp:Nat.beq vs.length fn.v9=true) (hd:I6 vs=true) (h:AA L [.code fn.body] (CH 0 vs) [] (OC fn r)) (hs:fn.kj=false:=by rfl):Ev L f vs r:=(E9.x hL hp hd h).ev hL hs
def FE:List (Nat × Nat)->Nat->Nat
 | [],k=>k
 | (a,b)::r,k=>bif Nat.beq k a then b else FE r k
def V6 (τ:List (Nat × Nat)):AV->AV
 | .row k t z o n => .row (FE τ k) t z o n
 | .ptr k t i j => .ptr (FE τ k) t i j
 | v=>v
def OU (τ:List (Nat × Nat)):List AV->List AV
 | []=>[]
 | v::r=>V6 τ v::OU τ r
def RG (τ:List (Nat × Nat)):AV->AV
 | .agg cs => .agg (OU τ cs)
 | .fn p f g cs => .fn p f g (OU τ cs)
 | v=>V6 τ v
def V8 (τ:List (Nat × Nat)):List AV->List AV
 | []=>[]
 | v::r=>RG τ v::V8 τ r
def V7 (τ:List (Nat × Nat)):AV->AV
 | .j5 cs => .j5 (V8 τ cs)
 | v=>RG τ v
def V9 (τ:List (Nat × Nat)):List (List AV)->List (List AV)
 | []=>[]
 | v::r=>OU τ v::V9 τ r
def IU (τ:List (Nat × Nat)):A3->A3
 | .bx cs => .bx (OU τ cs)
 | .rw z es => .rw z es
 | .bs z es => .bs z (V9 τ es)
 | .mx rows => .mx rows
 | .hx i v rows => .hx i v rows
 | .vw w rows => .vw w rows
variable {τ:List (Nat × Nat)}
theorem TL : ∀ l:List AV,OU τ l=l.map (V6 τ)
 | []=>rfl
 | v::r=>by rw[OU,TL r];rfl
theorem nB : ∀ l:List AV,V8 τ l=l.map (RG τ)
 | []=>rfl
 | v::r=>by rw[V8,nB r];rfl
theorem WM (v:AV):A7 (λ k t=>σ (FE τ k) t) v=A7 σ (V6 τ v):=by cases v<;>rfl
theorem bW (v:AV):BO (λ k t=>σ (FE τ k) t) v=BO σ (RG τ v):=by
 cases v with
 | agg cs=>simp only[BO,RG,TL,List.map_map];exact congrArg AV.agg (List.map_congr_left λ v _=>WM v)
 | fn p f g cs=>simp only[BO,RG,TL,List.map_map];exact congrArg (AV.fn p f g) (List.map_congr_left λ v _=>WM v)
 | _=>rfl
theorem Sj (v:AV):BB (λ k t=>σ (FE τ k) t) v=BB σ (V7 τ v):=by
 cases v with
 | j5 cs=>simp only[BB,V7,nB,List.map_map];exact congrArg AV.j5 (List.map_congr_left λ v _=>bW v)
 | agg cs=>exact bW (.agg cs)
 | fn p f g cs=>exact bW (.fn p f g cs)
 | _=>rfl
theorem nC : ∀ l:List (List AV),V9 τ l=l.map (OU τ)
 | []=>rfl
 | v::r=>by rw[V9,nC r];rfl
theorem S6 {k:Nat} : ∀ (rows:List (Option (Nat × List (List AV)))) (i:Nat),BT (λ k t=>σ (FE τ k) t) k i rows=BT σ (FE τ k) i rows
 | [],i=>rfl
 | none::r,i=>by rw[BT,BT,S6 r]
 | some (z,es)::r,i=>by rw[BT,BT,S6 r]
theorem tW (c:A3) (k:Nat):c.e8 (λ k t=>σ (FE τ k) t) k=(IU τ c).e8 σ (FE τ k):=by
 cases c with
 | bx cs =>
  simp only[A3.e8,IU,TL,List.length_map,List.map_map];rw[List.map_congr_left λ v _=>WM v];rfl
 | rw z es=>rfl
 | bs z es =>
  simp only[A3.e8,IU,nC,List.map_map];congr 1;refine List.map_congr_left λ cs _ => ?_
  simp only[Function.comp,TL,List.map_map];exact List.map_congr_left λ v _=>WM v
 | mx rows=>simp only[A3.e8,IU,S6]
 | hx i v rows=>simp only[A3.e8,IU,S6]
 | vw w rows=>simp only[A3.e8,IU,S6]
def sc (k s:Nat) (c:A3):Mem->Mem
 | []=>[(k,s,c)]
 | (j,s',c')::r=>bif Nat.beq k j then (k,s,c)::r else (j,s',c')::sc k s c r
def ke:Mem->Mem
 | []=>[]
 | (k,s,c)::r=>sc k s c (ke r)
theorem lI (k s:Nat) (c:A3) (j:Nat) : ∀ M:Mem,c7 (sc k s c M) j=bif Nat.beq j k then some (s,c) else c7 M j
 | []=>rfl
 | (i,s',c')::r=>by
  simp only[sc];cases hk:Nat.beq k i
  ·simp only[cond_false,c7,lI k s c j r]
   cases hj:Nat.beq j i<;>cases Va:Nat.beq j k<;>simp only[cond_true,cond_false];exact absurd ((BD.1 Va).symm.trans (BD.1 hj)) (E2.1 hk)
  ·obtain rfl:=BD.1 hk
   simp only[cond_true,c7];cases Nat.beq j k<;>rfl
theorem Q6 (j:Nat) : ∀ M:Mem,c7 (ke M) j=c7 M j
 | []=>rfl
 | (k,s,c)::r=>by simp only[ke,lI,Q6 j r,c7]
theorem VR (k t:Nat):c6 (ke M) k t=c6 M k t:=by simp only[c6,Q6]
def ry (τ:List (Nat × Nat)) (M:Mem):List (Nat × Nat × A3)->List (Option (Nat × A3))
 | []=>[]
 | (k,_,_)::r=>c7 M (FE τ k)::ry τ M r
def rz (τ:List (Nat × Nat)):List (Nat × Nat × A3)->List (Option (Nat × A3))
 | []=>[]
 | (_,s,c)::r=>some (s,IU τ c)::rz τ r
def Cw (tm:Tm):Tm->List AV
 | []=>[]
 | (j,_)::r=>tg tm j::Cw tm r
def Cx (τ:List (Nat × Nat)):Tm->List AV
 | []=>[]
 | (_,v)::r=>V7 τ v::Cx τ r
def VW:List Nat->Bool
 | []=>true
 | k::r=>bif NS k r then false else VW r
def keys (τ:List (Nat × Nat)):Mem->List Nat
 | []=>[]
 | (k,_,_)::r=>FE τ k::keys τ r
theorem lH : ∀ {M':Mem} {M:Mem},ry τ M M'=rz τ M' -> ∀ k s c,c7 M' k=some (s,c)->c7 M (FE τ k)=some (s,IU τ c)
 | [],_,_,_,_,_,e=>by cases e
 | (i,s',c')::r,M,h,k,s,c,e=>by
  simp only[ry,rz,List.cons.injEq]at h;simp only[c7]at e;cases hb:Nat.beq k i<;>simp only[hb,cond_true,cond_false]at e
  ·exact lH h.2 k s c e
  ·simp only[Option.some.injEq,Prod.mk.injEq]at e
   obtain ⟨rfl,rfl⟩:=e;rw[BD.1 hb];exact h.1
theorem ZW : ∀ {M:Mem} {k s:Nat} {c:A3},c7 M k=some (s,c)->NS (FE τ k) (keys τ M)=true
 | (i,s',c')::r,k,s,c,e=>by
  simp only[c7]at e;simp only[keys,NS];cases hb:Nat.beq k i<;>simp only[hb,cond_true,cond_false]at e
  ·rw[ZW e];cases Nat.beq (FE τ k) (FE τ i)<;>rfl
  ·rw[BD.1 hb];simp
theorem lX : ∀ {M:Mem},VW (keys τ M)=true -> ∀ {k k' s s':Nat} {c c':A3},c7 M k=some (s,c)->c7 M k'=some (s',c')->FE τ k=FE τ k'->k=k'
 | [],_,_,_,_,_,_,_,e,_,_=>by cases e
 | (i,s0,c0)::r,h,k,k',s,s',c,c',e,e',hk=>by
  simp only[keys,VW]at h;cases hm:NS (FE τ i) (keys τ r)<;>simp only[hm,cond_true,cond_false]at h
  ·simp only[c7]at e e'
   cases hb:Nat.beq k i<;>cases k6:Nat.beq k' i<;>simp only[hb,k6,cond_true,cond_false]at e e'
   ·exact lX h e e' hk
   ·obtain rfl:=BD.1 k6
    have:=ZW (τ:=τ) e
    rw[hk,hm]at this;cases this
   ·obtain rfl:=BD.1 hb
    have:=ZW (τ:=τ) e'
    rw[<-hk,hm]at this;cases this
   ·exact (BD.1 hb).trans (BD.1 k6).symm
  ·cases h
theorem oT : ∀ {w3:Tm} {tm:Tm},Cw tm w3=Cx τ w3 -> ∀ j,tg w3 j = .any\/tg tm j=V7 τ (tg w3 j)
 | [],_,_,_=>Or.inl rfl
 | (i,v)::r,tm,h,j=>by
  simp only[Cw,Cx,List.cons.injEq]at h;simp only[tg];cases hb:Nat.beq j i<;>simp only[cond_true,cond_false]
  ·exact oT h.2 j
  ·rw[BD.1 hb];exact Or.inr h.1
def w8 (ts:List Nat) (tm:Tm):Tm:=match ts with
 | []=>tm
 | t::ts=>qw (mask 0 (t::ts)) tm
def M9 (τ:List (Nat × Nat)) (tm:Tm) (M:Mem) (w3:Tm) (M':Mem):Prop :=
 fT (qw 0 w3) λ l=>fM (ke M') λ m=>Cw tm l=Cx τ l/\ry τ M m=rz τ m/\VW (keys τ m)=true
theorem BV {k:List It} {w3:Tm} {M':Mem} {Q:Tm->Mem->Prop} (τ:List (Nat × Nat)) (he:M9 τ tm M w3 M') (h:AA L k w3 M' Q):AA L k tm M Q:=by
 unfold M9 at he;rw[SU,I8]at he;obtain ⟨ht,hm,hn⟩:=he;intro σ st hr;have hg : ∀ k s c,c7 M' k=some (s,c)->c7 M (FE τ k)=some (s,IU τ c):=λ k s c e=>lH hm k s c (by rw[Q6];exact e)
 have zp : ∀ k t c,c6 M' k t=some c->c6 M (FE τ k) t=some (IU τ c):=by
  intro k t c e;obtain ⟨s,c0,g1,g2,g3⟩:=IL e;have:=hg k s c0 g1
  cases t with
  | zero=>rw[g2 rfl];exact DY this
  | succ i =>
   obtain ⟨rows,z,es,(rfl|⟨a,v,rfl⟩)|⟨w,rfl⟩,hr,rfl⟩:=g3 i rfl
   ·simp [c6,this,IU,hr]
   ·simp [c6,this,IU,hr]
   ·simp [c6,this,IU,hr]
 refine h (λ k t=>σ (FE τ k) t) st ⟨λ j => ?_,⟨?_,?_,?_,?_,?_⟩⟩
 ·have:=oT ht j
  rw[TW,XL,cond_false]at this;rcases this with e|e
  ·exact Or.inl e
  ·rcases hr.tm j with e'|e'
   ·left
    rw[e']at e;cases hv:tg w3 j<;>rw[hv]at e<;>first|rfl|cases e
   ·right
    rw[e',e,Sj]
 ·intro k s c e;exact hr.sat.site _ _ _ (hg k s c e)
 ·intro k t c e;rw[tW];exact hr.sat.e8 _ _ _ (zp k t c e)
 ·intro k t c e;exact hr.sat.old _ _ _ (zp k t c e)
 ·intro k t k' t' c c' e e' hk
  obtain ⟨q1,q2⟩:=hr.sat.inj _ _ _ _ _ _ (zp _ _ _ e) (zp _ _ _ e') hk;obtain ⟨s,c0,g,_⟩:=IL e;obtain ⟨s',Xu,g',_⟩:=IL e';exact ⟨lX hn (by rw[Q6];exact g) (by rw[Q6];exact g') q1,q2⟩
 ·intro k t c e hw
  exact hr.sat.low _ _ _ (zp k t c e) (by cases c<;>exact hw)
theorem BQ {k:List It} {w3:Tm} {M':Mem} {Q:Tm->Mem->Prop} (τ:List (Nat × Nat)) (h:AA L k w3 M' Q) (he:M9 τ tm M w3 M':=by (conv=>whnf);exact ⟨rfl,rfl,rfl⟩):AA L k tm M Q:=BV τ he h
theorem pP {k:List It} {Q:Tm->Mem->Prop} (h:AA L k (qw 0 tm) (ke M) Q):AA L k tm M Q:=by
 intro σ st hr;refine h σ st ⟨λ j => ?_,⟨?_,?_,?_,?_,?_⟩⟩
 ·rw[TW,XL,cond_false];exact hr.tm j
 ·intro k s c e;rw[Q6]at e;exact hr.sat.site _ _ _ e
 ·intro k t c e;rw[VR]at e;exact hr.sat.e8 _ _ _ e
 ·intro k t c e;rw[VR]at e;exact hr.sat.old _ _ _ e
 ·intro k t k' t' c c' e e' hk
  rw[VR]at e e';exact hr.sat.inj _ _ _ _ _ _ e e' hk
 ·intro k t c e hw;rw[VR]at e;exact hr.sat.low _ _ _ e hw
theorem F9 {k:List It} {c:BC} {Q:Tm->Mem->Prop} (h:AA L (.code c :: .lp c::k) tm M Q):AA L (.lp c::k) tm M Q:=λ σ st hr=>cM.2 (h σ st hr)
theorem RN {α:Type} {k:List It} {c:BC} {Q:Tm->Mem->Prop} (m:α->Nat) (P:α->Prop) (vs:α->Tm) (Ms:α->Mem) (ts:List Nat) (τ:List (Nat × Nat)) (a:α)
  (he:M9 τ tm M (vs a++w8 ts tm) (Ms a++M)) (hp:P a)
  (step : ∀ a,P a->(∀ a',m a'<m a->P a'->AA L (.lp c::k) (vs a'++w8 ts tm) (Ms a'++M) Q)->AA L (.code c :: .lp c::k) (vs a++w8 ts tm) (Ms a++M) Q):AA L (.lp c::k) tm M Q:=by
 have key : ∀ n a,m a<n->P a->AA L (.lp c::k) (vs a++w8 ts tm) (Ms a++M) Q:=by
  intro n;induction n with
  | zero=>intro a h;omega
  | succ n ih =>
   intro a ha hp;exact F9 (step a hp λ a' h1 h2=>ih a' (by omega) h2)
 exact BV τ he (key (m a+1) a (by omega) hp)
end
end Go.c4
namespace Go.c4
section
variable {α:Type} {enc:α->List AV} {l:List α} {L:Lib}
theorem AG {p q A B:Prop} (h1:p->A) (h2:q->B):AF p q A B:=⟨h1,h2⟩
theorem BA {p A:Prop} (h1:p) (h2:A):AU p A:=⟨h1,h2⟩
section
variable {K:AV->Prop} {a b:Int} {k k':IntKind} {op:BinOp}
theorem T8 {v:AV} (h:C9 op k a k' b=some v) (hk:K v):AC op k a k' b K:=⟨v,h,hk⟩
theorem AY (hr : -9223372036854775808<=a+b/\a+b<=9223372036854775807) (hk:K (.int .i64 (a+b))):AC .add .i64 a .i64 b K:=⟨_,by simp only[C9,if_true];rw[IntWalk.i64_in _ hr],hk⟩
theorem B1 (hr : -9223372036854775808<=a-b/\a-b<=9223372036854775807) (hk:K (.int .i64 (a-b))):AC .sub .i64 a .i64 b K:=⟨_,by simp only[C9,if_true];rw[IntWalk.i64_in _ hr],hk⟩
theorem D5 (hr : -9223372036854775808<=a*b/\a*b<=9223372036854775807) (hk:K (.int .i64 (a*b))):AC .mul .i64 a .i64 b K:=⟨_,by simp only[C9,if_true];rw[IntWalk.i64_in _ hr],hk⟩
theorem QL (hb:0<b) (h1:(0<=a\/a%b=0)->0<=a%b->a%b<b->K (.int .i64 (a%b))) (h2:a<0->a%b≠0->0<=a%b->a%b<b->K (.int .i64 (a%b-b))):AC .rem .i64 a .i64 b K:=by
 have h5:0<=a%b:=Int.emod_nonneg _ (by omega);have h6:a%b<b:=Int.emod_lt_of_pos _ hb;have e:C9 .rem .i64 a .i64 b=some (.int .i64 (a.tmod b)):=by simp only[C9];rw[if_pos ⟨trivial,by omega⟩]
 by_cases hc:0<=a\/a%b=0
 ·rw[oU hb,if_pos hc]at e
  exact ⟨_,e,h1 hc h5 h6⟩
 ·rw[oU hb,if_neg hc]at e
  exact ⟨_,e,h2 (by omega) (by omega) h5 h6⟩
theorem O6 (hb:0<b) (ha : -9223372036854775808<=a/\a<=9223372036854775807) (h1:(0<=a\/a%b=0)->K (.int .i64 (a/b))) (h2:a<0->a%b≠0->K (.int .i64 (a/b+1))):AC .quo .i64 a .i64 b K:=by
 have hr:=xZ (m:=b) (by omega) ha;have e:C9 .quo .i64 a .i64 b=some (.int .i64 (IntKind.i64.wrap (a.tdiv b))):=by simp only[C9];rw[if_pos ⟨trivial,by omega⟩]
 by_cases hc:0<=a\/a%b=0
 ·rw[oS hb,if_pos hc,IntWalk.i64_in _ hr]at e
  exact ⟨_,e,h1 hc⟩
 ·have Vs:a/b<0:=Int.ediv_neg_of_neg_of_pos (by omega) hb
  rw[oS hb,if_neg hc,IntWalk.i64_in _ (by omega)]at e;exact ⟨_,e,h2 (by omega) (by omega)⟩
theorem rI (h:0<=b/\b<=63) (hk:K (.int .i64 (a/pw b))):AC .shr .i64 a k' b K:=⟨_,Rx h,hk⟩
theorem rK (hk:K (.int k (k.wrap (a+b)))):AC .add k a k b K:=⟨_,by simp only[C9,if_true],hk⟩
theorem B6.neg (hr : -9223372036854775808 <= -a /\ -a<=9223372036854775807) (hk:K (.int .i64 (-a))):B6 .neg .i64 a K:=⟨_,by simp only[O0];rw[show (0:Int)-a = -a by omega,IntWalk.i64_in _ hr],hk⟩
theorem B6.go {op:UnOp} {v:AV} (h:O0 op (.int k a)=some v) (hk:K v):B6 op k a K:=⟨v,h,hk⟩
end
theorem RP {k:IntKind} {n:Int} {K:Int->Prop} (e:k.wrap n=n) (h:K n):AQ k n K:=by unfold AQ;rw[e];exact h
theorem CB {n:Int} {K:Int->Prop} (hr:0<=n/\n<=18446744073709551615) (h:K n):AQ .u64 n K:=RP (IntWalk.u64_in _ hr) h
theorem O1 {n:Int} {K:Int->Prop} (hr : -9223372036854775808<=n/\n<=9223372036854775807) (h:K n):AQ .i64 n K:=RP (IntWalk.i64_in _ hr) h
theorem BG {a:Int} {z:Nat} {K:List AV->Prop} {e:α} (he:l[a.toNat]? = some e) (h0:0<=a) (hz:(enc e).length=z) (h:K (enc e)):AX (l.map enc) a z K:=⟨h0,enc e,by simp [he],hz,h⟩
theorem W8 {a:Int} {z:Nat} {K:List AV->Prop} (h0:0<=a/\a<l.length) (hz : ∀ e,(enc e).length=z) (h : ∀ e,l[a.toNat]? = some e->K (enc e)):AX (l.map enc) a z K:=by
 have he:l[a.toNat]? = some (l[a.toNat]'(by omega)):=zE _;exact BG he h0.1 (hz _) (h _ he)
theorem rN {n z:Nat} {K:List AV->Prop} (hn:n<l.length) (hz : ∀ e,(enc e).length=z) (h : ∀ e,l[n]? = some e->K (enc e)):AX (l.map enc) (n:Int) z K :=
 W8 ⟨by omega,by omega⟩ hz h
theorem dA {i j n:Nat} {K:List AV->Prop} {f:α->List AV} (hi:i<l.length) (hp : ∀ e,part (enc e) j n=some (f e)) (h : ∀ e,l[i]? = some e->K (f e)):A9 (l.map enc) (0+((i:Int)).toNat) j n K:=by
 have he:l[i]? = some l[i]:=zE _;rw[Nat.zero_add,Int.toNat_natCast];exact ⟨enc l[i],f l[i],by simp [he],hp _,h _ he⟩
theorem T6 {i:Int} {j n:Nat} {K:List AV->Prop} {f:α->List AV} (hi:0<=i/\i<l.length) (hp : ∀ e,part (enc e) j n=some (f e)) (h : ∀ e,l[i.toNat]? = some e->K (f e)):A9 (l.map enc) (0+i.toNat) j n K:=by
 have hl:i.toNat<l.length:=by omega
 have he:l[i.toNat]? = some l[i.toNat]:=zE _;rw[Nat.zero_add];exact ⟨enc l[i.toNat],f l[i.toNat],by rw[List.getElem?_map,he];rfl,hp _,h _ he⟩
theorem I3 {i:Nat} {vs:List AV} {K:List (List AV)->Prop} (e:α) (he:vs=enc e) (hz : ∀ x,(enc x).length=vs.length) (hi:i<l.length) (h:K ((l.set i e).map enc)):A4 (l.map enc) (0+((i:Int)).toNat) 0 vs K:=by
 rw[Nat.zero_add,Int.toNat_natCast];refine ⟨enc l[i],by simp [zE hi],by rw[hz];omega,?_⟩;rw[show splice (enc l[i]) 0 vs=vs by simp [splice,<-hz l[i]],he,<-List.map_set];exact h
theorem W3 {i j n:Nat} {K:List AV->Prop} {e:α} {ds:List AV} (he:l[i]? = some e) (hp:part (enc e) j n=some ds) (h:K ds):A9 (l.map enc) i j n K:=⟨enc e,ds,by simp [he],hp,h⟩
theorem Sg {cs vs:List AV} (h:cs.length=vs.length):splice cs 0 vs=vs:=by
 simp [splice,<-h]
theorem rT {i:Nat} {vs:List AV} {K:List (List AV)->Prop} (e:α) (he:vs=enc e) (hz : ∀ x,(enc x).length=vs.length) (hi:i<l.length) (h:K ((l.set i e).map enc)):A4 (l.map enc) i 0 vs K:=by
 refine ⟨enc l[i],by simp [zE hi],by rw[hz];omega,?_⟩;rw[Sg (hz _),he,<-List.map_set];exact h
theorem ET {a b:Int} {bytes:Nat} {zero:List AV} {K:List (List AV)->Nat->Prop} (x:α) (n:Nat) (hx:zero=enc x) (hn:a=n) (hr:a<=b/\b*bytes<=140737488355328/\b<=9223372036854775807) (h:K ((List.replicate n x).map enc) n):BS a b bytes zero K:=by
 subst hn hx;refine ⟨⟨by omega,hr.1,by simpa [EA] using hr.2.1,hr.2.2⟩,?_⟩;simpa using h
theorem AR {K:Nat->Prop} (h:K l.length):AP (l.map enc) K:=by unfold AP;simpa using h
theorem FH {len z bytes:Nat} {vs:List AV} {K:List (List AV)->Nat->Prop} (e:α) (he:vs=enc e) (hl:len=l.length) (hz:vs.length=z) (hr:(l.length+1)*bytes<=140737488355328) (ah:l.length+1<=9223372036854775807) (h:K ((l++[e]).map enc) (l++[e]).length):BR (l.map enc) len [vs] z bytes K:=by
 subst hl;refine ⟨by simp,by simpa using hz,by simpa [EA] using hr,by simpa using ah,?_⟩;rw[List.take_of_length_le (by simp)];simpa [he] using h
theorem cQ {len z bytes:Nat} {l':List α} {K:List (List AV)->Nat->Prop} (hl:len=l.length) (hz : ∀ x,(enc x).length=z) (hr:(l.length+l'.length)*bytes<=140737488355328) (ah:l.length+l'.length<=9223372036854775807) (h:K ((l++l').map enc) (l++l').length):BR (l.map enc) len (l'.map enc) z bytes K:=by
 subst hl;refine ⟨by simp,by simp [hz],by simpa [EA] using hr,by simpa using ah,?_⟩;rw[List.take_of_length_le (by simp)];simpa using h
theorem RO {z bytes:Nat} {vs:List AV} {K:List (List AV)->Nat->Prop} (e:α) (he:vs=enc e) (hz:vs.length=z) (hb:bytes<=140737488355328) (h:K ([e].map enc) 1):B0 [vs] z bytes K :=
 ⟨by simpa using hz,by simpa [EA] using hb,by simp,by simpa [he] using h⟩
theorem N7 {z bytes:Nat} {K:List (List AV)->Nat->Prop} (hz : ∀ x,(enc x).length=z) (hr:l.length*bytes<=140737488355328) (ah:l.length<=9223372036854775807) (h:K (l.map enc) l.length):B0 (l.map enc) z bytes K :=
 ⟨by simp [hz],by simpa [EA] using hr,by simpa using ah,by simpa using h⟩
theorem UF {off len:Nat} {K:List (List AV)->Prop} (hl:off+len<=l.length) (h:K (((l.drop off).take len).map enc)):BN (l.map enc) off len K :=
 ⟨by simpa using hl,by rw[<-List.map_drop,<-List.map_take];exact h⟩
theorem Z8 : ∀ {e:List AV},E7 e=true->KH e=true/\e.map nl=e
 | [],_=>⟨rfl,rfl⟩
 | v::r,h=>by
  have hv:E7 r=true:=by cases v<;>simp only[E7]at h<;>first|cases h|exact h
  obtain ⟨h1,h2⟩:=Z8 hv;cases v<;>simp only[E7]at h<;>first|cases h|exact ⟨h1,by rw[List.map_cons,h2];rfl⟩
theorem mA : ∀ {es:List (List AV)},(∀ e∈es,E7 e=true)->es.map (λ e=>e.map nl)=es
 | [],_=>rfl
 | e::r,h=>by rw[List.map_cons,(Z8 (h e List.mem_cons_self)).2,mA λ x hx=>h x (List.mem_cons_of_mem _ hx)]
theorem RY {es:List (List AV)} {off len:Nat} {K:List (List AV)->Prop} (hl:off+len<=es.length) (hz : ∀ e∈es,E7 e=true) (h:K ((es.drop off).take len)):A0 es off len K :=
 ⟨hl,λ e he=>(Z8 (hz e he)).1,by rw[mA λ e he=>hz e (List.mem_of_mem_drop (List.mem_of_mem_take he))];exact h⟩
theorem DE {off len:Nat} {K:List (List AV)->Prop} (hz : ∀ x,E7 (enc x)=true) (ho:off=0) (hl:len=l.length) (h:K (l.map enc)):A0 (l.map enc) off len K:=by
 subst hl ho;refine RY (by simp) (λ e he => ?_) (by rw[List.drop_zero,List.take_of_length_le (by simp)];exact h);obtain ⟨x,_,rfl⟩:=List.mem_map.1 he;exact hz x
theorem G2 {off len:Nat} {K:List (List AV)->Prop} (hz : ∀ x,E7 (enc x)=true) (hl:off+len<=l.length) (h:K (((l.drop off).take len).map enc)):A0 (l.map enc) off len K:=by
 refine RY (by simpa using hl) (λ e he => ?_) (by rw[<-List.map_drop,<-List.map_take];exact h);obtain ⟨x,_,rfl⟩:=List.mem_map.1 he;exact hz x
theorem EN {e:List AV} {K:List (List AV)->Prop} (h:K [e]):BN [e] 0 1 K:=⟨by simp,h⟩
theorem H1 {e:List AV} {K:List (List AV)->Prop} (h0:E7 e=true) (h:K [e]):A0 [e] 0 1 K:=RY (by simp) (by simpa using h0) h
theorem RW {e e':List AV} {K:List (List AV)->Prop} (h0:E7 e=true) (h1:E7 e'=true) (h:K [e,e']):A0 [e,e'] 0 2 K:=RY (by simp) (by simpa using ⟨h0,h1⟩) h
section
variable {β:Type} {z:Nat} {ll:List (List β)} {en:β->List AV}
abbrev FP (z:Nat) (en:β->List AV) (ll:List (List β)):List (Option (Nat × List (List AV))):=ll.map λ r=>some (z,r.map en)
theorem cP {len bytes:Nat} {r:List β} {K:List (Option (Nat × List (List AV)))->Nat->Prop} (hl:len=ll.length) (hr:(ll.length+1)*bytes<=140737488355328) (ah:ll.length+1<=9223372036854775807) (h:K (FP z en (ll++[r])) (ll++[r]).length):CP (FP z en ll) len (some (z,r.map en)) bytes K:=by
 subst hl;exact ⟨by simp,by simpa [EA] using hr,ah,by simpa [FP] using h⟩
theorem nD (q:Bool) : ∀ ll:List (List β),OV q (FP z en ll)=ll.map λ r=>[AV.sl q (r.map en)]
 | []=>rfl
 | r::l=>by simp only[FP,List.map_cons,OV];rw[show OV q (l.map λ r=>some (z,r.map en))=_ from nD q l]
theorem UG {q:Bool} {off len:Nat} {K:List (List AV)->Prop} (hz : ∀ x,E7 (en x)=true) (ho:off=0) (hl:len=ll.length) (h:K (ll.map λ r=>[AV.sl q (r.map en)])):CN q (FP z en ll) off len K:=by
 refine ⟨ho,by simpa using hl,λ z' es hm e he => ?_,by rw[nD];exact h⟩;obtain ⟨r,_,hr⟩:=List.mem_map.1 hm;simp only[Option.some.injEq,Prod.mk.injEq]at hr;obtain ⟨rfl,rfl⟩:=hr;obtain ⟨x,_,rfl⟩:=List.mem_map.1 he;exact hz x
end
theorem qR {len:Nat} {a:Int} {K:Nat->Nat->Prop} (h0:0<=a/\a<=len) (h:K a.toNat len):BK (some a) none len K:=⟨a.toNat,len,⟨h0.1,rfl⟩,rfl,by omega,h⟩
theorem qQ {len:Nat} {b:Int} {K:Nat->Nat->Prop} (h0:0<=b/\b<=len) (h:K 0 b.toNat):BK none (some b) len K:=⟨0,b.toNat,rfl,⟨h0.1,h0.2,rfl⟩,by omega,h⟩
theorem N8 {len:Nat} {a b:Int} {K:Nat->Nat->Prop} (h0:0<=a/\a<=b/\b<=len) (h:K a.toNat b.toNat):BK (some a) (some b) len K:=⟨a.toNat,b.toNat,⟨h0.1,rfl⟩,⟨by omega,by omega,rfl⟩,by omega,h⟩
theorem dK {z:Nat} {lo hi:Option Int} {K:List (List AV)->Prop} (hz : ∀ x,(enc x).length=z) (h:BK lo hi l.length λ a h=>K (((l.take h).drop a).map enc)):B2 z (l.map enc) lo hi K:=by
 refine ⟨by simp [hz],?_⟩;rw[List.length_map];obtain ⟨a,b,h1,h2,h3,h4⟩:=h;refine ⟨a,b,h1,h2,h3,?_⟩;show K _;rw[<-List.map_take,<-List.map_drop];exact h4
theorem O7 {z k:Nat} {K:List (List AV)->Prop} (hz : ∀ x,(enc x).length=z) (hk:k<=l.length) (h:K ((l.take k).map enc)):B2 z (l.map enc) none (some (k:Int)) K :=
 dK hz (qQ (by omega) (by simpa using h))
theorem rS {z k:Nat} {K:List (List AV)->Prop} (hz : ∀ x,(enc x).length=z) (hk:k<=l.length) (h:K ((l.drop k).map enc)):B2 z (l.map enc) (some (k:Int)) none K :=
 dK hz (qR (by omega) (by simpa using h))
theorem AD {f:Nat} {vs:List AV} {K:AV->Prop} {r:AV} (h:Ev L f vs r) (hk:K r):AB L f vs K:=⟨r,h,hk⟩
theorem cR {f:Nat} {vs:List AV} {K:AV->Prop} {p:Prop} [Decidable p] (h:Ev L f vs (.bool (decide p))) (h1:p->K (.bool true)) (h2 : ¬ p->K (.bool false)):AB L f vs K:=by
 refine ⟨_,h,?_⟩;by_cases e:p
 ·rw[decide_eq_true e];exact h1 e
 ·rw[decide_eq_false e];exact h2 e
theorem AW {a r:AV} (h:a=r) (hc:A1 r):AJ a r:=⟨h,hc⟩
theorem JG {a r:Bool} (h:a=r):AJ (.bool a) (.bool r):=⟨by rw[h],by simp [A1]⟩
theorem qW {p:Prop} [Decidable p] (h:p):AJ (.bool true) (.bool (decide p)):=⟨by simp [h],by simp [A1]⟩
theorem cW {p:Prop} [Decidable p] (h : ¬ p):AJ (.bool false) (.bool (decide p)):=⟨by simp [h],by simp [A1]⟩
theorem CY {k:IntKind} {a b:Int} (h:a=b):AJ (.int k a) (.int k b):=⟨by rw[h],by simp [A1]⟩
theorem SA (h : ∀ x,CQ (enc x)) : ∀ l:List α,FM (l.map enc)
 | []=>by simp [FM]
 | x::r=>by rw[List.map_cons,FM];exact ⟨h x,SA h r⟩
end
theorem CK {α:Type} {L:Lib} {k:List It} {cd:BC} {tm:Tm} {M:Mem} {Q:Tm->Mem->Prop} (m:α->Nat) (P:α->Prop) (vs:α->Tm) (Ms:α->Mem) (ts:List Nat) (τ:List (Nat × Nat)) (a:α)
  (he:M9 τ tm M (vs a++w8 ts tm) (Ms a++M)) (hp:P a)
  (step : ∀ a,P a->(∀ a',m a'<m a->P a'->AA L (.lp cd::k) (vs a'++w8 ts tm) (Ms a'++M) Q)->AA L (.code cd :: .lp cd::k) (vs a++w8 ts tm) (Ms a++M) Q):AA L (.lp cd::k) tm M Q :=
 RN (α:=α) (λ x=>m x) (λ x=>P x) (λ x=>vs x) (λ x=>Ms x) ts τ a he hp λ a h ih=>step a h λ a' h1 h2=>ih a' h1 h2
theorem FV {α β:Type} {L:Lib} {k:List It} {cd:BC} {tm:Tm} {M:Mem} {Q:Tm->Mem->Prop} (m:α->β->Nat) (P:α->β->Prop) (vs:α->β->Tm) (Ms:α->β->Mem) (ts:List Nat) (τ:List (Nat × Nat)) (a:α) (b:β)
  (he:M9 τ tm M (vs a b++w8 ts tm) (Ms a b++M)) (hp:P a b)
  (step : ∀ a b,P a b->(∀ a' b',m a' b'<m a b->P a' b'->AA L (.lp cd::k) (vs a' b'++w8 ts tm) (Ms a' b'++M) Q)->AA L (.code cd :: .lp cd::k) (vs a b++w8 ts tm) (Ms a b++M) Q):AA L (.lp cd::k) tm M Q :=
 RN (α:=α × β) (λ x=>m x.1 x.2) (λ x=>P x.1 x.2) (λ x=>vs x.1 x.2) (λ x=>Ms x.1 x.2) ts τ (a,b) he hp λ⟨a,b⟩ h ih=>step a b h λ a' b' h1 h2=>ih (a',b') h1 h2
theorem FW {α β γ:Type} {L:Lib} {k:List It} {cd:BC} {tm:Tm} {M:Mem} {Q:Tm->Mem->Prop} (m:α->β->γ->Nat) (P:α->β->γ->Prop) (vs:α->β->γ->Tm) (Ms:α->β->γ->Mem) (ts:List Nat) (τ:List (Nat × Nat)) (a:α) (b:β) (c:γ)
  (he:M9 τ tm M (vs a b c++w8 ts tm) (Ms a b c++M)) (hp:P a b c)
  (step : ∀ a b c,P a b c->(∀ a' b' c',m a' b' c'<m a b c->P a' b' c'->AA L (.lp cd::k) (vs a' b' c'++w8 ts tm) (Ms a' b' c'++M) Q)->AA L (.code cd :: .lp cd::k) (vs a b c++w8 ts tm) (Ms a b c++M) Q):AA L (.lp cd::k) tm M Q :=
 RN (α:=α × β × γ) (λ x=>m x.1 x.2.1 x.2.2) (λ x=>P x.1 x.2.1 x.2.2) (λ x=>vs x.1 x.2.1 x.2.2) (λ x=>Ms x.1 x.2.1 x.2.2) ts τ (a,b,c) he hp λ⟨a,b,c⟩ h ih=>step a b c h λ a' b' c' h1 h2=>ih (a',b',c') h1 h2
theorem WZ {α β γ δ:Type} {L:Lib} {k:List It} {cd:BC} {tm:Tm} {M:Mem} {Q:Tm->Mem->Prop} (m:α->β->γ->δ->Nat) (P:α->β->γ->δ->Prop) (vs:α->β->γ->δ->Tm) (Ms:α->β->γ->δ->Mem) (ts:List Nat) (τ:List (Nat × Nat)) (a:α) (b:β) (c:γ) (d:δ)
  (he:M9 τ tm M (vs a b c d++w8 ts tm) (Ms a b c d++M)) (hp:P a b c d)
  (step : ∀ a b c d,P a b c d->(∀ a' b' c' d',m a' b' c' d'<m a b c d->P a' b' c' d'->AA L (.lp cd::k) (vs a' b' c' d'++w8 ts tm) (Ms a' b' c' d'++M) Q)->AA L (.code cd :: .lp cd::k) (vs a b c d++w8 ts tm) (Ms a b c d++M) Q):AA L (.lp cd::k) tm M Q :=
 RN (α:=α × β × γ × δ) (λ x=>m x.1 x.2.1 x.2.2.1 x.2.2.2) (λ x=>P x.1 x.2.1 x.2.2.1 x.2.2.2) (λ x=>vs x.1 x.2.1 x.2.2.1 x.2.2.2) (λ x=>Ms x.1 x.2.1 x.2.2.1 x.2.2.2) ts τ (a,b,c,d) he hp λ⟨a,b,c,d⟩ h ih=>step a b c d h λ a' b' c' d' h1 h2=>ih (a',b',c',d') h1 h2
theorem pQ {α β γ δ ε ζ:Type} {L:Lib} {k:List It} {cd:BC} {tm:Tm} {M:Mem} {Q:Tm->Mem->Prop} (m:α->β->γ->δ->ε->ζ->Nat) (P:α->β->γ->δ->ε->ζ->Prop) (vs:α->β->γ->δ->ε->ζ->Tm) (Ms:α->β->γ->δ->ε->ζ->Mem) (ts:List Nat) (τ:List (Nat × Nat)) (a:α) (b:β) (c:γ) (d:δ) (e:ε) (f:ζ)
  (he:M9 τ tm M (vs a b c d e f++w8 ts tm) (Ms a b c d e f++M)) (hp:P a b c d e f)
  (step : ∀ a b c d e f,P a b c d e f->(∀ a' b' c' d' e' f',m a' b' c' d' e' f'<m a b c d e f->P a' b' c' d' e' f'->AA L (.lp cd::k) (vs a' b' c' d' e' f'++w8 ts tm) (Ms a' b' c' d' e' f'++M) Q)->AA L (.code cd :: .lp cd::k) (vs a b c d e f++w8 ts tm) (Ms a b c d e f++M) Q):AA L (.lp cd::k) tm M Q :=
 RN (α:=α × β × γ × δ × ε × ζ) (λ x=>m x.1 x.2.1 x.2.2.1 x.2.2.2.1 x.2.2.2.2.1 x.2.2.2.2.2) (λ x=>P x.1 x.2.1 x.2.2.1 x.2.2.2.1 x.2.2.2.2.1 x.2.2.2.2.2) (λ x=>vs x.1 x.2.1 x.2.2.1 x.2.2.2.1 x.2.2.2.2.1 x.2.2.2.2.2) (λ x=>Ms x.1 x.2.1 x.2.2.1 x.2.2.2.1 x.2.2.2.2.1 x.2.2.2.2.2) ts τ (a,b,c,d,e,f) he hp λ⟨a,b,c,d,e,f⟩ h ih=>step a b c d e f h λ a' b' c' d' e' f' h1 h2=>ih (a',b',c',d',e',f') h1 h2
theorem AE {L:Lib} {Q:Tm->Mem->Prop} {c:BC} {k:List It} {tm:Tm} {M:Mem} (h:fT (qw 0 tm) λ tm=>fM (ke M) λ M=>XK L Q 500 (.code c::k) tm M):AA L (.code c::k) tm M Q:=by
 rw[SU,I8]at h;exact pP (dM h)
end Go.c4

namespace Go.c4
variable {L:Lib}
def BZ (N:Nat):AM->Bool
 | .t n=>Nat.blt n N
 | .c _=>true
def TB (N:Nat):DL->Bool
 | .b7 x=>BZ N x
 | .w9 _ _=>true
 | .pick c a b=>BZ N c&&(BZ N a&&BZ N b)
 | .bin _ x y=>BZ N x&&BZ N y
 | .beq _ x y=>BZ N x&&BZ N y
 | .un _ x=>BZ N x
 | .conv _ x=>BZ N x
 | .box _ x=>BZ N x
 | .alloc _ _=>true
 | .build _ ps=>ps.all λ p=>BZ N p.2.2
 | .c9 _ _ ps=>ps.all (BZ N)
 | .a5 x _=>BZ N x
 | .ja x _ _ _=>BZ N x
 | .a9 _ _ x i=>BZ N x&&BZ N i
 | .idx _ _ _ x i=>BZ N x&&BZ N i
 | .ld _ _ x=>BZ N x
 | .st _ x v=>BZ N x&&BZ N v
 | .mk _ _ _ _ l c=>BZ N l&&BZ N c
 | .dc _ x lo hi=>BZ N x&&((lo.all (BZ N))&&(hi.all (BZ N)))
 | .ext x _=>BZ N x
 | .len x=>BZ N x
 | .mm _ xs=>xs.all (BZ N)
 | .app _ _ _ x y=>BZ N x&&BZ N y
 | .jq _ x y=>BZ N x&&BZ N y
 | .call _ xs=>xs.all (BZ N)
 | .g6 _ xs=>xs.all (BZ N)
 | .mr _ x=>BZ N x
 | .ct _ x=>BZ N x
 | .bad=>true
 | .nm x=>BZ N x
 | .dd x=>BZ N x
 | .jn _ _ _ x y=>BZ N x&&BZ N y
 | .jm _ _ _ x y=>BZ N x&&BZ N y
 | .kf _ _ xs=>xs.all (BZ N)
 | .n9 x xs=>BZ N x&&xs.all (BZ N)
 | .k9 _ xs=>xs.all (BZ N)
 | .o6 _ _ xs=>xs.all (BZ N)
 | .y6 _ _ xs=>xs.all (BZ N)
 | .mv _ _ x y=>BZ N x&&BZ N y
 | .jl _ _ x v=>BZ N x&&BZ N v
 | .az _ _ _ x y=>BZ N x&&BZ N y
def R1 (N:Nat) (a:AI):Bool:=(a.dst.all λ d=>Nat.blt d N)&&((a.guard.all λ g=>Nat.blt g.1 N)&&TB N a.op)
def HH (N:Nat):BC->Bool
 | .skip=>true
 | .ops l _=>l.all (R1 N)
 | .dr c ts _=>HH N c&&ts.all λ t=>Nat.blt t N
 | .scope c=>HH N c
 | .seq a b=>HH N a&&HH N b
 | .cond c a b=>BZ N c&&(HH N a&&HH N b)
 | .block _ c=>HH N c
 | .loop c=>HH N c
 | .exit _=>true
 | .ret=>true
def OQ (N:Nat):It->Bool
 | .code c=>HH N c
 | .iz ts _=>ts.all λ t=>Nat.blt t N
 | .e8 _=>true
 | .lp c=>HH N c
structure Gh (N:Nat) (G T T':Tm):Prop where
 lo : ∀ j,j<N->e9 T' j=e9 T j
 hi : ∀ j,N<=j->e9 T' j=e9 G j
variable {N:Nat} {G:Tm}
theorem PC {a b:Nat}:Nat.blt a b=true↔a<b:=by simp [Nat.blt];omega
theorem Gh.ev {st:St} {T':Tm} {o:AH} (h:Gh N G st.tm T') {x:AM} (hx:BZ N x=true):St.ev ⟨T',o⟩ x=st.ev x:=by
 cases x with
 | t n=>exact h.lo n (PC.1 hx)
 | c v=>rfl
theorem PU {f g:AM->AV} {xs:List AM} (h : ∀ x,BZ N x=true->f x=g x) (hx:xs.all (BZ N)=true):xs.map f=xs.map g:=by
 apply List.map_congr_left;intro x hm;exact h x (List.all_eq_true.1 hx x hm)
theorem yB {C:Cl} {b9:List Nat} {ρ ρ':AM->AV} {own:AH} (h : ∀ x,BZ N x=true->ρ' x=ρ x) : ∀ (op:DL),TB N op=true->c8 C b9 ρ' own op=c8 C b9 ρ own op:=by
 intro op j8;cases op;case build zero ps =>
  have:(ps.map λ p=>(p.1,p.2.1,ρ' p.2.2))=ps.map λ p=>(p.1,p.2.1,ρ p.2.2):=by
   apply List.map_congr_left;intro p hm;rw[h _ (List.all_eq_true.1 j8 p hm)]
  simp only[c8,this]
 case c9 s a6 ps =>
  have:ps.mapM (λ x=>cellsOf (ρ' x))=ps.mapM (λ x=>cellsOf (ρ x)):=by
   have ni:ps.all (BZ N)=true:=j8;clear j8;induction ps with
   | nil=>rfl
   | cons p r ih =>
    simp only[List.all_cons,Bool.and_eq_true]at ni;simp only[List.mapM_cons,h _ ni.1,ih ni.2]
  simp only[c8,this]
 case mm m xs=>simp only[c8,PU h j8]
 case call f xs=>simp only[c8,PU h j8]
 case g6 f xs=>simp only[c8,PU h j8]
 case kf p f xs =>
  have:xs.mapM (λ x=>GF (ρ' x))=xs.mapM (λ x=>GF (ρ x)):=by
   have ni:xs.all (BZ N)=true:=j8;clear j8;induction xs with
   | nil=>rfl
   | cons p r ih =>
    simp only[List.all_cons,Bool.and_eq_true]at ni;simp only[List.mapM_cons,h _ ni.1,ih ni.2]
  simp only[c8,this]
 case k9 f xs=>simp only[c8,PU h j8]
 case o6 s f xs=>simp only[c8,PU h j8]
 case y6 s f xs=>simp only[c8,PU h j8]
 case n9 x xs =>
  simp only[TB,Bool.and_eq_true]at j8;simp only[c8,PU h j8.2,h _ j8.1]
 case dc a6 x lo hi =>
  simp only[TB,Bool.and_eq_true]at j8;obtain ⟨h1,h2,h3⟩:=j8;cases lo<;>cases hi<;>simp only[Option.all_some,Option.all_none]at h2 h3<;>simp only[c8,h _ h1,h _,h2,h3]
 all_goals (simp only[TB,Bool.and_eq_true]at j8;simp only[c8,h _,j8])
theorem Gh.dst {T T':Tm} (h:Gh N G T T') {d:Nat} (hd:d<N) (v:AV):Gh N G (fb T d v) (fb T' d v):=by
 constructor
 ·intro j hj
  rw[T3,T3,h.lo j hj]
 ·intro j hj
  rw[T3,h.hi j hj,if_neg (by omega)]
theorem Gh.jr {T T':Tm} {o:AH} (h:Gh N G T T') {d:Option Nat} (hd:(d.all λ d=>Nat.blt d N)=true) (v:AV):((⟨T',o⟩:St).dst d v).own=((⟨T,o⟩:St).dst d v).own/\Gh N G ((⟨T,o⟩:St).dst d v).tm ((⟨T',o⟩:St).dst d v).tm:=by
 cases d with
 | none=>exact ⟨rfl,h⟩
 | some d=>exact ⟨rfl,h.dst (PC.1 hd) v⟩
theorem Sk {C:Cl} {a:AI} (ha:R1 N a=true) {T T':Tm} {o:AH} (h:Gh N G T T') {s':St} (hs:C3 C a ⟨T',o⟩=some s') : ∃ s,C3 C a ⟨T,o⟩=some s/\s'.own=s.own/\Gh N G s.tm s'.tm:=by
 simp only[R1,Bool.and_eq_true]at ha;obtain ⟨h1,h2,h3⟩:=ha;have hg:E4 ⟨T',o⟩ a.guard=E4 ⟨T,o⟩ a.guard:=by
  cases Uv:a.guard with
  | none=>rfl
  | some g =>
   rw[Uv]at h2;simp only[E4,h.lo _ (PC.1 h2)]
 have he:=yB (C:=C) (b9:=a.b9) (own:=o) (ρ:=St.ev ⟨T,o⟩) (ρ':=St.ev ⟨T',o⟩) (λ x hx=>Gh.ev (st:=⟨T,o⟩) h hx) a.op h3;unfold C3 at hs ⊢;rw[hg,he]at hs;cases xg:E4 ⟨T,o⟩ a.guard with
 | none=>rw[xg]at hs;cases hs
 | some b =>
  rw[xg]at hs;cases b with
  | false =>
   simp only[Option.some.injEq]at hs ⊢;subst hs;exact ⟨_,rfl,h.jr h1 _⟩
  | true =>
   simp only at hs ⊢;cases Hr:c8 C a.b9 (St.ev ⟨T,o⟩) o a.op with
   | none=>rw[Hr]at hs;cases hs
   | some e =>
    rw[Hr]at hs;simp only[Option.map_some,Option.some.injEq]at hs ⊢;subst hs;refine ⟨_,rfl,?_⟩;cases e with
    | val v=>exact h.jr h1 v
    | new s b v=>exact ⟨rfl,(h.jr (o:=o) h1 _).2⟩
    | sd s b v=>exact ⟨rfl,(h.jr (o:=o) h1 _).2⟩
    | z0 v o'=>exact ⟨rfl,(h.jr (o:=o) h1 _).2⟩
    | m7 s x=>exact ⟨rfl,(h.jr (o:=o) h1 _).2⟩
    | nr s x v=>exact ⟨rfl,(h.jr (o:=o) h1 _).2⟩
theorem oL {C:Cl} : ∀ {l:List AI},l.all (R1 N)=true -> ∀ {T T':Tm} {o:AH},Gh N G T T' -> ∀ {s':St},C6 C l ⟨T',o⟩=some s' -> ∃ s,C6 C l ⟨T,o⟩=some s/\s'.own=s.own/\Gh N G s.tm s'.tm
 | [],_,T,T',o,h,s',hs=>by
  simp only[C6,Option.some.injEq]at hs;subst hs;exact ⟨_,rfl,rfl,h⟩
 | a::l,ha,T,T',o,h,s',hs=>by
  simp only[List.all_cons,Bool.and_eq_true]at ha;simp only[C6]at hs;cases h1:C3 C a ⟨T',o⟩ with
  | none=>rw[h1]at hs;cases hs
  | some s1 =>
   rw[h1]at hs;obtain ⟨s2,e1,e2,e3⟩:=Sk ha.1 h h1;obtain ⟨T1,o1⟩:=s1;obtain ⟨T2,o2⟩:=s2;simp only at e2 e3;subst e2;obtain ⟨s3,f1,f2,f3⟩:=oL ha.2 e3 hs;exact ⟨s3,by simp only[C6,e1,f1],f2,f3⟩
theorem SS {id:Nat} : ∀ {k k':List It},k.all (OQ N)=true->EX id k=some k'->k'.all (OQ N)=true
 | [],_,_,h=>by simp [EX]at h
 | it::k,k',hk,h=>by
  simp only[List.all_cons,Bool.and_eq_true]at hk;cases it with
  | e8 i =>
   simp only[EX]at h;split at h
   ·cases h;exact hk.2
   ·exact SS hk.2 h
  | code c=>simp only[EX]at h;exact SS hk.2 h
  | iz a b=>simp only[EX]at h;exact SS hk.2 h
  | lp c=>simp only[EX]at h;exact SS hk.2 h
theorem HT {C:Cl} : ∀ (n:Nat) {k:List It},k.all (OQ N)=true -> ∀ {T T':Tm} {o:AH},Gh N G T T' -> ∀ {s':St},run C n k ⟨T',o⟩=some s' -> ∃ s,run C n k ⟨T,o⟩=some s/\s'.own=s.own/\Gh N G s.tm s'.tm
 | 0,k,_,T,T',o,_,s',hs=>by simp [run]at hs
 | n+1,[],_,T,T',o,h,s',hs=>by
  simp only[run,Option.some.injEq]at hs ⊢;subst hs;exact ⟨_,rfl,rfl,h⟩
 | n+1,.e8 _::k,hk,T,T',o,h,s',hs=>by
  simp only[List.all_cons,Bool.and_eq_true]at hk;simp only[run]at hs ⊢;exact HT n hk.2 h hs
 | n+1,.iz ts ss::k,hk,T,T',o,h,s',hs=>by
  simp only[List.all_cons,Bool.and_eq_true]at hk;simp only[run]at hs ⊢;refine HT n hk.2 ⟨λ j hj => ?_,λ j hj => ?_⟩ hs
  ·rw[RJ,RJ,h.lo j hj]
  ·rw[RJ,h.hi j hj,if_neg]
   intro hc;have:=List.all_eq_true.1 hk.1 j (by simpa using hc)
   have:=PC.1 this
   omega
 | n+1,.lp c::k,hk,T,T',o,h,s',hs=>by
  simp only[run]at hs ⊢;have dn:=hk;simp only[List.all_cons,Bool.and_eq_true]at hk;exact HT n (by simp only[List.all_cons,Bool.and_eq_true];exact ⟨hk.1,hk.1,hk.2⟩) h hs
 | n+1,.code c::k,hk,T,T',o,h,s',hs=>by
  simp only[List.all_cons,Bool.and_eq_true]at hk;obtain ⟨hc,hk⟩:=hk;cases c with
  | skip=>simp only[run]at hs ⊢;exact HT n hk h hs
  | ops l d =>
   simp only[run]at hs ⊢;cases h1:C6 C l ⟨T',o⟩ with
   | none=>rw[h1]at hs;cases hs
   | some s1 =>
    rw[h1]at hs;obtain ⟨s2,e1,e2,e3⟩:=oL (show l.all (R1 N)=true from hc) h h1;obtain ⟨T1,o1⟩:=s1;obtain ⟨T2,o2⟩:=s2;simp only at e2 e3;subst e2;rw[e1];exact HT n hk e3 hs
  | dr c ts ss =>
   simp only[run]at hs ⊢;simp only[OQ,HH,Bool.and_eq_true]at hc;exact HT n (by simp only[List.all_cons,Bool.and_eq_true];exact ⟨hc.1,hc.2,hk⟩) h hs
  | scope c =>
   simp only[run]at hs ⊢;exact HT n (by simp only[List.all_cons,Bool.and_eq_true];exact ⟨hc,hk⟩) h hs
  | seq a b =>
   simp only[run]at hs ⊢;simp only[OQ,HH,Bool.and_eq_true]at hc;exact HT n (by simp only[List.all_cons,Bool.and_eq_true];exact ⟨hc.1,hc.2,hk⟩) h hs
  | cond x a b =>
   simp only[OQ,HH,Bool.and_eq_true]at hc;simp only[run,Gh.ev (st:=⟨T,o⟩) h hc.1]at hs ⊢;cases hx:St.ev ⟨T,o⟩ x<;>rw[hx]at hs<;>try (simp at hs;done)
   rename_i q;cases q
   ·exact HT n (by simp only[List.all_cons,Bool.and_eq_true];exact ⟨hc.2.2,hk⟩) h hs
   ·exact HT n (by simp only[List.all_cons,Bool.and_eq_true];exact ⟨hc.2.1,hk⟩) h hs
  | block id c =>
   simp only[run]at hs ⊢;exact HT n (by simp only[List.all_cons,Bool.and_eq_true];exact ⟨hc,rfl,hk⟩) h hs
  | loop c =>
   simp only[run]at hs ⊢;exact HT n (by simp only[List.all_cons,Bool.and_eq_true];exact ⟨hc,hc,hk⟩) h hs
  | exit id =>
   simp only[run]at hs ⊢;cases he:EX id k with
   | none=>rw[he]at hs;cases hs
   | some k' =>
    rw[he]at hs;exact HT n (SS hk he) h hs
  | ret =>
   simp only[run,Option.some.injEq]at hs ⊢;subst hs;exact ⟨_,rfl,rfl,h⟩
def FR (N:Nat):Tm->Tm
 | []=>[]
 | (i,v)::r=>(N+i,v)::FR N r
def gh (N:Nat):Tm->Tm
 | []=>[]
 | (i,v)::r=>bif Nat.ble N i then (Nat.sub i N,v)::gh N r else gh N r
theorem cD (N j:Nat) : ∀ T:Tm,e9 (FR N T) (N+j)=e9 T j
 | []=>rfl
 | (i,v)::r=>by
  have ih:=cD N j r;simp only[FR,e9,ih];by_cases h:j=i
  ·simp [h]
  ·rw[if_neg h,if_neg (by omega)]
theorem cE {N j:Nat} (hj:j<N) : ∀ T:Tm,e9 (FR N T) j = .any
 | []=>rfl
 | (i,v)::r=>by
  simp only[FR,e9,cE hj r];rw[if_neg (by omega)]
theorem cB (N j:Nat) : ∀ T:Tm,e9 (gh N T) j=e9 T (N+j)
 | []=>rfl
 | (i,v)::r=>by
  have ih:=cB N j r;simp only[gh];cases h:Nat.ble N i
  ·have h1 : ¬ N<=i:=λ e=>by rw[Nat.ble_eq_true_of_le e]at h;cases h
   simp only[cond,e9,ih];rw[if_neg (by omega)]
  ·have h1:=Nat.le_of_ble_eq_true h
   simp only[cond,e9,ih];by_cases h2:j=i-N
   ·rw[if_pos (show j=Nat.sub i N from h2),if_pos (by omega)]
   ·rw[if_neg (show ¬ j=Nat.sub i N from h2),if_neg (by omega)]
def JV (f:AV->AV):Tm->Tm
 | []=>[]
 | (i,v)::r=>(i,f v)::JV f r
theorem IX {f:AV->AV} (hf:f .any = .any) (j:Nat) : ∀ T:Tm,e9 (JV f T) j=f (e9 T j)
 | []=>hf.symm
 | (i,v)::r=>by
  simp only[JV,e9,IX hf j r];by_cases h:j=i<;>simp [h]
theorem ZI (f:AV->AV) : ∀ (i:Nat) (vs:List AV),CH i (vs.map f)=JV f (CH i vs)
 | _,[]=>rfl
 | i,v::r=>by simp only[List.map_cons,CH,JV,ZI f (i+1) r]
theorem TY (j:Nat) (b:Tm) : ∀ a:Tm,((a.any λ p=>p.1 == j)=true/\e9 (a++b) j=e9 a j)\/((a.any λ p=>p.1 == j)=false/\e9 (a++b) j=e9 b j)
 | []=>Or.inr ⟨rfl,rfl⟩
 | (i,v)::r=>by
  by_cases h:j=i
  ·subst h
   exact Or.inl (by simp [e9])
  ·have h' : ¬ i=j:=λ e=>h e.symm
   rcases TY j b r with ⟨h1,h2⟩|⟨h1,h2⟩
   ·exact Or.inl ⟨by rw[List.any_cons,h1,Bool.or_true],by simp only[List.cons_append,e9,if_neg h,h2]⟩
   ·exact Or.inr ⟨by rw[List.any_cons,h1,Bool.or_false];simpa using h',by simp only[List.cons_append,e9,if_neg h,h2]⟩
theorem ZH (j:Nat) : ∀ (i:Nat) (vs:List AV),((CH i vs).any λ p=>p.1 == j)=true->j<i+vs.length
 | _,[],h=>by simp [CH]at h
 | i,v::r,h=>by
  simp only[CH,List.any_cons,Bool.or_eq_true,beq_iff_eq]at h;rcases h with h|h
  ·simp;omega
  ·have:=ZH j (i+1) r h
   simp;omega
theorem cC (j:Nat) : ∀ (i:Nat) (vs:List AV),((CH i vs).any λ p=>p.1 == j)=false->e9 (CH i vs) j = .any
 | _,[],_=>rfl
 | i,v::r,h=>by
  simp only[CH,List.any_cons,Bool.or_eq_false_iff,beq_eq_false_iff_ne]at h;simp only[CH,e9];rw[if_neg λ e=>h.1 e.symm,cC j (i+1) r h.2]
theorem JF (σ:FA):BB σ .any = .any:=rfl
def OT (tm:Tm):List ID->Option (List AV)
 | []=>some []
 | .tmp t::r=>match H8 (tg tm t),OT tm r with
  | some v,some vs=>some (v::vs)
  | _,_=>none
 | .cell _ _ _::_=>none
def TI (N:Nat):List ID->Bool
 | []=>true
 | .tmp t::r=>Nat.blt t N&&TI N r
 | .cell _ _ _::_=>false
def dG (N:Nat) (fn:AFn) (tm:Tm) (K:AV->Mem->Prop) (w3:Tm) (M':Mem):Prop:=gh N w3=tm /\ ∃ rs,OT w3 fn.res=some rs/\K (G8 rs) M'
theorem Po {σ:FA} {v u:AV} (h:H8 v=some u):u=v/\BB σ v=BO σ v/\H8 (BB σ v)=some (BB σ v):=by
 cases v<;>simp [H8]at h<;>subst h<;>exact ⟨rfl,rfl,rfl⟩
theorem aK {σ:FA} {w3:Tm} {M:Mem} {s s':St} (hr:RX σ w3 M s') (jc : ∀ j,j<N->e9 s'.tm j=e9 s.tm j) : ∀ {res:List ID} {rs:List AV},TI N res=true->OT w3 res=some rs->res.mapM (EQ s)=some (rs.map (BO σ)) /\ ∀ v∈rs,BB σ v=BO σ v
 | [],rs,_,h=>by
  simp only[OT,Option.some.injEq]at h;subst h;exact ⟨rfl,by simp⟩
 | .cell _ _ _::_,_,_,h=>by simp [OT]at h
 | .tmp t::r,rs,hl,h=>by
  simp only[TI,Bool.and_eq_true]at hl;simp only[OT]at h;cases h1:H8 (tg w3 t) with
  | none=>rw[h1]at h;simp at h
  | some v =>
   cases h2:OT w3 r with
   | none=>rw[h1,h2]at h;simp at h
   | some vs =>
    rw[h1,h2]at h;simp only[Option.some.injEq]at h;subst h;obtain ⟨i1,i2⟩:=aK hr jc hl.2 h2;obtain ⟨rfl,j2,j3⟩:=Po (σ:=σ) h1;have:e9 s.tm t=BB σ (tg w3 t):=by
     rcases hr.tm t with e|e
     ·rw[e]at h1;cases h1
     ·rw[<-jc t (PC.1 hl.1),e]
    refine ⟨?_,?_⟩
    ·rw[j2]at j3 this
     simp only[List.mapM_cons,EQ,this,j3,i1,List.map_cons];rfl
    ·intro v hv
     simp only[List.mem_cons]at hv;rcases hv with rfl|hv
     ·exact j2
     ·exact i2 v hv
theorem mX {σ:FA} {rs:List AV} (h : ∀ v∈rs,BB σ v=BO σ v):G8 (rs.map (BO σ))=BB σ (G8 rs):=by
 match rs,h with
 | [],_=>rfl
 | [v],h=>exact (h v (by simp)).symm
 | _::_::_,_=>rfl
theorem GZ {f:Nat} {fn:AFn} {vs:List AV} {tm:Tm} {M:Mem} {K:AV->Mem->Prop} (N:Nat) (hL:L f=some fn) (hp:Nat.beq vs.length fn.v9=true) (hN:(Nat.ble fn.v9 N&&(HH N fn.body&&TI N fn.res))=true)
  (h:AA L [.code fn.body] (CH 0 vs++FR N tm) M (dG N fn tm K)):A5 L f vs tm M K:=by
 intro σ own hs;simp only[Bool.and_eq_true]at hN;obtain ⟨n1,n2,n3⟩:=hN;have n1:=Nat.le_of_ble_eq_true n1;have hp:vs.length=fn.v9:=Nat.eq_of_beq_eq_true hp;have Fj:RX σ (CH 0 vs++FR N tm) M ⟨JV (BB σ) (CH 0 vs++FR N tm),own⟩:=⟨λ j=>Or.inr (by rw[IW];exact IX (JF σ) j _),hs⟩;obtain ⟨n,c,s',hr,σ',w3,M',hR,hg,rs,Ap,hk⟩:=h σ _ Fj;have Ei:Gh N (JV (BB σ) (FR N tm)) (CH 0 (vs.map (BB σ))) (JV (BB σ) (CH 0 vs++FR N tm)):=by
  constructor
  ·intro j hj
   rw[ZI,IX (JF σ),IX (JF σ)];rcases TY j (FR N tm) (CH 0 vs) with ⟨_,e⟩|⟨hn,e⟩
   ·rw[e]
   ·rw[e,cE hj,cC j 0 vs hn]
  ·intro j hj
   rw[IX (JF σ),IX (JF σ)];rcases TY j (FR N tm) (CH 0 vs) with ⟨hn,e⟩|⟨_,e⟩
   ·have:=ZH j 0 vs hn
    omega
   ·rw[e]
 obtain ⟨s,r1,r2,r3⟩:=HT n (by simp [OQ,n2]) Ei hr;obtain ⟨i1,i2⟩:=aK (s:=s) hR r3.lo n3 Ap;refine ⟨G8 rs,s.own,σ',M',FX.intro hL (by simpa using hp) ⟨n,c,s,r1,?_,rfl⟩,?_,?_,hk⟩
 ·rw[i1,Option.map_some,mX i2]
 ·rw[<-r2];exact hR.sat
 ·intro j
  have e1:tg tm j=tg w3 (N+j):=by rw[IW,IW,<-hg,cB]
  rcases hR.tm (N+j) with e|e
  ·rw[e1,e];rfl
  ·rw[e1,<-e,r3.hi (N+j) (by omega),IX (JF σ),cD,<-IW,e1]
theorem O8 {α:Type} {enc:α->List AV} {l:List α} {i:Nat} {vs:List AV} {K:List (List AV)->Prop} (n:Nat) (e:α) (hn:i=n) (he:vs=enc e) (hz : ∀ x,(enc x).length=vs.length) (hi:n<l.length) (h:K ((l.set n e).map enc)):A4 (l.map enc) i 0 vs K:=by
 subst hn;exact rT e he hz hi h
theorem GM {x:Int} {len:Nat} {K:Nat->Nat->Prop} (h:Nat) (hx:x=h) (hl:h<=len) (hk:K 0 h):BK none (some x) len K:=⟨0,h,rfl,⟨by omega,by omega,by omega⟩,by omega,hk⟩
end Go.c4

namespace Go.c4
@[irreducible] def EB (a b : Nat) : Nat := (a + 18446744073709551616 - b) % 18446744073709551616
theorem QE (a b:Nat):EB a b=(a+18446744073709551616-b)%18446744073709551616:=by unfold EB;rfl
def val:List Nat->Nat
 | []=>0
 | d::l=>d+4294967296*val l
def AZ (l:List Nat):Prop := ∀ d∈l,d<4294967296
def dg (n:Nat):List Nat:=if h:n=0 then [] else n%4294967296::dg (n/4294967296)
termination_by n
decreasing_by omega
theorem EJ:dg 0=[]:=by rw[dg];simp
theorem H3 {n:Nat} (h:n≠0):dg n=n%4294967296::dg (n/4294967296):=by rw[dg];simp [h]
theorem HX:val []=0:=rfl
theorem N6 (d:Nat) (l:List Nat):val (d::l)=d+4294967296*val l:=rfl
theorem BL (n:Nat):val (dg n)=n:=by
 induction n using Nat.strongRecOn with
 | ind n ih =>
  by_cases h:n=0
  ·subst h;rw[EJ];rfl
  ·rw[H3 h,N6,ih _ (by omega)]
   omega
theorem DK (n:Nat):AZ (dg n):=by
 induction n using Nat.strongRecOn with
 | ind n ih =>
  by_cases h:n=0
  ·subst h;rw[EJ];intro d hd;cases hd
  ·rw[H3 h]
   intro d hd;rcases List.mem_cons.1 hd with rfl|hd
   ·omega
   ·exact ih _ (by omega) d hd
theorem AZ.tail {d:Nat} {l:List Nat} (h:AZ (d::l)):AZ l:=λ x hx=>h x (List.mem_cons_of_mem _ hx)
theorem AZ.head {d:Nat} {l:List Nat} (h:AZ (d::l)):d<4294967296:=h d List.mem_cons_self
theorem AZ.at {l:List Nat} (h:AZ l) {i d:Nat} (hd:l[i]? = some d):d<4294967296:=h d (zM hd)
theorem AZ.take {l:List Nat} (h:AZ l) (n:Nat):AZ (l.take n):=λ x hx=>h x (List.mem_of_mem_take hx)
theorem AZ.drop {l:List Nat} (h:AZ l) (n:Nat):AZ (l.drop n):=λ x hx=>h x (List.mem_of_mem_drop hx)
theorem QQ:AZ []:=λ_ h=>by cases h
theorem AZ.append {a b:List Nat} (h:AZ a) (h':AZ b):AZ (a++b):=λ x hx=>(List.mem_append.1 hx).elim (h x) (h' x)
theorem GR {d:Nat} (h:d<4294967296):AZ [d]:=λ x hx=>by simp at hx;omega
theorem AZ.set {l:List Nat} (h:AZ l) (i:Nat) {d:Nat} (hd:d<4294967296):AZ (l.set i d):=λ x hx=>by
 rcases List.mem_or_eq_of_mem_set hx with h1|h1
 ·exact h x h1
 ·omega
theorem H4 (n:Nat):AZ (List.replicate n 0):=λ x hx=>by rw[(List.mem_replicate.1 hx).2];omega
theorem RL (a b:List Nat):val (a++b)=val a+4294967296^a.length*val b:=by
 induction a with
 | nil=>simp [val]
 | cons d l ih=>rw[List.cons_append,N6,N6,ih,List.length_cons,Nat.pow_succ];grind
theorem MH (l:List Nat) (v:Nat):val (l++[v])=val l+4294967296^l.length*v:=by
 rw[RL];simp [val]
theorem EL {l:List Nat} (h:AZ l):val l<4294967296^l.length:=by
 induction l with
 | nil=>simp [val]
 | cons d l ih =>
  have h1:=ih h.tail;have h2:=h.head;rw[N6,List.length_cons,Nat.pow_succ];omega
theorem DQ {l:List Nat} {i v:Nat} (h:l[i]? = some v):val (l.take (i+1))=val (l.take i)+4294967296^i*v:=by
 have hi:=(zS h).1;rw[List.take_add_one,h,Option.toList_some,MH,List.length_take,Nat.min_eq_left (by omega)]
theorem IY (l:List Nat) (i:Nat) (h:i<=l.length):val l=val (l.take i)+4294967296^i*val (l.drop i):=by
 have:=RL (l.take i) (l.drop i)
 rw[List.take_append_drop,List.length_take,Nat.min_eq_left h]at this;exact this
theorem WW (n:Nat):val (List.replicate n 0)=0:=by
 induction n with
 | zero=>rfl
 | succ n ih=>rw[List.replicate_succ,N6,ih]
theorem vP {l:List Nat} (h:AZ l) (ht:l=[] \/ ∃ d,l[l.length-1]? = some d/\d≠0):dg (val l)=l:=by
 induction l with
 | nil=>exact EJ
 | cons d l ih =>
  have h1:=h.head;by_cases hl:l=[]
  ·subst hl
   rcases ht with ht|⟨x,hx,pt⟩
   ·cases ht
   ·simp at hx
    subst hx;rw[N6,HX,H3 (by omega),show (d+4294967296*0)/4294967296=0 by omega,EJ,show (d+4294967296*0)%4294967296=d by omega]
  ·have jd : ∃ x,l[l.length-1]? = some x/\x≠0:=by
    rcases ht with ht|⟨x,hx,pt⟩
    ·cases ht
    ·refine ⟨x,?_,pt⟩
     have:l.length≠0:=λ e=>hl (List.eq_nil_of_length_eq_zero e)
     rw[List.length_cons,show l.length+1-1=(l.length-1)+1 by omega,List.getElem?_cons_succ]at hx;exact hx
   have Be:=ih h.tail (Or.inr jd);have Ag:val l≠0:=by
    intro e;rw[e,EJ]at Be;exact hl Be.symm
   rw[N6,H3 (by omega),show (d+4294967296*val l)/4294967296=val l by omega,Be,show (d+4294967296*val l)%4294967296=d by omega]
theorem FN {l:List Nat} (h:AZ l) {n:Nat} (hn:n<=l.length) (hz : ∀ i,n<=i->i<l.length->l[i]? = some 0) (ht:n=0 \/ ∃ d,l[n-1]? = some d/\d≠0):l.take n=dg (val l):=by
 have hv:val l=val (l.take n):=by
  have h0:l.drop n=List.replicate (l.length-n) 0:=by
   apply List.ext_getElem?;intro i;rw[List.getElem?_drop,List.getElem?_replicate];by_cases hi:n+i<l.length
   ·rw[hz (n+i) (by omega) hi,if_pos (by omega)]
   ·rw[List.getElem?_eq_none (by omega),if_neg (by omega)]
  rw[IY l n hn,h0,WW];omega
 rw[hv];refine (vP (h.take n) ?_).symm;rcases ht with rfl|⟨d,hd,om⟩
 ·exact Or.inl (by simp)
 ·have l6:=(zS hd).1
  by_cases te:n=0
  ·subst te;exact Or.inl (by simp)
  ·refine Or.inr ⟨d,?_,om⟩
   rw[List.length_take,Nat.min_eq_left hn,List.getElem?_take,if_pos (by omega)];exact hd
theorem MU {n k:Nat}:(dg n).length<=k↔n<4294967296^k:=by
 induction k generalizing n with
 | zero =>
  by_cases h:n=0
  ·subst h;simp [EJ]
  ·rw[H3 h];simp;omega
 | succ k ih =>
  by_cases h:n=0
  ·subst h;simp [EJ];exact Nat.pos_of_ne_zero (by simp)
  ·rw[H3 h,List.length_cons,Nat.succ_le_succ_iff,ih,Nat.pow_succ]
   rw[Nat.div_lt_iff_lt_mul (by omega)]
theorem EG {l:List Nat} (h:AZ l):(dg (val l)).length<=l.length:=MU.2 (EL h)
theorem X4 {n:Nat} (h:n≠0) : ∃ d,(dg n)[(dg n).length-1]? = some d/\d≠0:=by
 induction n using Nat.strongRecOn with
 | ind n ih =>
  rw[H3 h];by_cases h2:n/4294967296=0
  ·rw[h2,EJ]
   exact ⟨n%4294967296,by simp,by omega⟩
  ·obtain ⟨d,hd,om⟩:=ih _ (by omega) h2
   refine ⟨d,?_,om⟩;have hl:(dg (n/4294967296)).length≠0:=λ e=>by rw[List.eq_nil_of_length_eq_zero e]at hd;simp at hd
   rw[List.length_cons,show (dg (n/4294967296)).length+1-1=(dg (n/4294967296)).length-1+1 by omega,List.getElem?_cons_succ];exact hd
theorem X2 {n:Nat}:dg n=[]↔n=0:=by
 constructor
 ·intro h
  by_cases h0:n=0
  ·exact h0
  ·rw[H3 h0]at h;cases h
 ·rintro rfl;exact EJ
theorem SF {n:Nat} (h:n≠0):1<=(dg n).length:=by rw[H3 h];simp
theorem Ph {o:List Nat} {i v:Nat} (h:i<o.length):(o.set i v).take (i+1)=o.take i++[v]:=by
 rw[List.take_add_one,List.getElem?_set_self h,List.take_set_of_le (Nat.le_refl i)];rfl
theorem FG {o:List Nat} {i v:Nat} (h:i<o.length):val ((o.set i v).take (i+1))=val (o.take i)+4294967296^i*v:=by
 rw[Ph h,MH,List.length_take,Nat.min_eq_left (by omega)]
theorem NF (V p t:Nat):V+p*(t%4294967296)+p*4294967296*(t/4294967296)=V+p*t:=by
 have h:=Nat.mod_add_div t 4294967296;have:p*(t%4294967296)+p*4294967296*(t/4294967296)=p*t:=by
  rw[Nat.mul_assoc,<-Nat.mul_add,h]
 omega
theorem C1 {l:List Nat} {n:Nat} (h:l.length<=n):val (l.take n)=val l:=by rw[List.take_of_length_le h]
theorem mR (i:Nat):1<=4294967296^i:=Nat.pos_of_ne_zero (by simp)
theorem GL {l:List Nat} {i d:Nat} (h:l[i]? = some d):val (l.drop i)=d+4294967296*val (l.drop (i+1)):=by
 obtain ⟨hi,rfl⟩:=zS h;rw[List.drop_eq_getElem_cons hi,N6]
theorem WR {a b:List Nat} (ha:AZ a) (hb:AZ b) (hl:a.length=b.length) {i:Nat} {x y:Nat} (hx:a[i]? = some x) (hy:b[i]? = some y) (he:a.drop (i+1)=b.drop (i+1)) (h:x<y):val a<val b:=by
 have Yg:=(zS hx).1;have Yh:=(zS hy).1;rw[IY a i (by omega),IY b i (by omega),GL hx,GL hy,he];have h1:=EL (ha.take i);rw[List.length_take,Nat.min_eq_left (by omega)]at h1;generalize val (b.drop (i+1))=r;generalize 4294967296^i=p at *;have:p*(x+4294967296*r)+p<=p*(y+4294967296*r):=by
  rw[<-Nat.mul_succ];exact Nat.mul_le_mul_left p (by omega)
 omega
theorem WS {o:List Nat} {k v old:Nat} (h:o[k]? = some old):val (o.set k v)+4294967296^k*old=val o+4294967296^k*v:=by
 have hk:=(zS h).1;have h1:val (o.set k v)=val (o.take k)+4294967296^k*(v+4294967296*val (o.drop (k+1))):=by
  rw[IY (o.set k v) k (by simp;omega),List.take_set_of_le (Nat.le_refl k),GL (l:=o.set k v) (d:=v) (by rw[List.getElem?_set_self hk]),List.drop_set_of_lt (by omega)]
 have h2:val o=val (o.take k)+4294967296^k*(old+4294967296*val (o.drop (k+1))):=by
  rw[IY o k (by omega),GL h]
 rw[h1,h2,Nat.mul_add,Nat.mul_add];omega
theorem TU {l:List Nat} (h:AZ l):l.take (dg (val l)).length=dg (val l):=by
 induction l with
 | nil=>rw[HX,EJ];rfl
 | cons d l ih =>
  have h1:=h.head;by_cases h0:val (d::l)=0
  ·rw[h0,EJ];rfl
  ·rw[H3 h0,N6,show (d+4294967296*val l)/4294967296=val l by omega,show (d+4294967296*val l)%4294967296=d by omega,List.length_cons,List.take_succ_cons,ih h.tail]
theorem RM {a b:Nat} (h:(dg a).length<(dg b).length):a<b:=by
 have h1:a<4294967296^(dg a).length:=MU.1 (Nat.le_refl _);have h2 : ¬ b<4294967296^((dg b).length-1):=λ h3=>by have:=MU.2 h3;omega
 have h3:4294967296^(dg a).length<=4294967296^((dg b).length-1):=Nat.pow_le_pow_right (by omega) (by omega);omega
end Go.c4

namespace Go.c4
section
variable {K:AV->Prop} {a b:Nat} {k':IntKind}
theorem wrap_u32 (n:Nat):IntKind.u32.wrap (n:Int)=((n%4294967296:Nat):Int):=by rw[IntKind.wrap_u32];omega
theorem Rt (n:Nat):IntKind.u64.wrap (n:Int)=((n%18446744073709551616:Nat):Int):=by
 simp [IntKind.wrap,IntKind.bits,IntKind.signed]
theorem FI (h:a+b<=18446744073709551615) (hk:K (.int .u64 ((a+b:Nat):Int))):AC .add .u64 (a:Int) .u64 (b:Int) K :=
 ⟨_,by simp only[C9,if_true];rw[IntWalk.u64_in _ (by omega)],by simpa using hk⟩
theorem H0 (h:b<=a) (h2:a<=18446744073709551615) (hk:K (.int .u64 ((a-b:Nat):Int))):AC .sub .u64 (a:Int) .u64 (b:Int) K :=
 ⟨_,by simp only[C9,if_true];rw[IntWalk.u64_in _ (by omega)],by rw[show (a:Int)-b=((a-b:Nat):Int) by omega];exact hk⟩
theorem UD (h:b<=18446744073709551616) (hk:K (.int .u64 ((EB a b:Nat):Int))):AC .sub .u64 (a:Int) .u64 (b:Int) K :=
 T8 (v := .int .u64 (IntKind.u64.wrap ((a:Int)-b))) (by simp only[C9,if_true]) (by
  have e:IntKind.u64.wrap ((a:Int)-b)=((EB a b:Nat):Int):=by
   rw[QE];simp only[IntKind.wrap,IntKind.bits,IntKind.signed];simp;omega
  rw[e];exact hk)
theorem NB (h:a*b<=18446744073709551615) (hk:K (.int .u64 ((a*b:Nat):Int))):AC .mul .u64 (a:Int) .u64 (b:Int) K :=
 ⟨_,by simp only[C9,if_true];rw[<-Int.natCast_mul,IntWalk.u64_in _ (by omega)],hk⟩
theorem UB (h:0<b) (h2:a<=18446744073709551615) (hk:K (.int .u64 ((a/b:Nat):Int))):AC .quo .u64 (a:Int) .u64 (b:Int) K:=by
 refine ⟨_,by simp only[C9];rw[if_pos ⟨trivial,by omega⟩],?_⟩;rw[IntWalk.u64_quo _ _ ⟨by omega,by omega,by omega⟩,<-Int.natCast_ediv];exact hk
theorem RT (h:0<b) (hk:K (.int .u64 ((a%b:Nat):Int))):AC .rem .u64 (a:Int) .u64 (b:Int) K:=by
 refine ⟨_,by simp only[C9];rw[if_pos ⟨trivial,by omega⟩],?_⟩;rw[IntWalk.rem_in _ _ (by omega),<-Int.natCast_emod];exact hk
theorem Pk {k:IntKind} {n:Nat} (hn:n<=k.bits):C9 .shl k (a:Int) k' (n:Int)=some (.int k (k.wrap ((a*2^n:Nat):Int))):=by
 simp only[C9];rw[if_neg (by omega),Int.toNat_natCast,Nat.min_eq_left hn];simp
theorem Ry {k:IntKind} {n:Nat} (hn:n<=k.bits):C9 .shr k (a:Int) k' (n:Int)=some (.int k ((a/2^n:Nat):Int)):=by
 simp only[C9];rw[if_neg (by omega),Int.toNat_natCast,Nat.min_eq_left hn,Int.fdiv_eq_ediv_of_nonneg _ (Int.le_of_lt (Int.pow_pos (by omega)))];simp
theorem W6 {k:IntKind} {n:Nat} (hn:n<=k.bits) (hk:K (.int k (k.wrap ((a*2^n:Nat):Int)))):AC .shl k (a:Int) k' (n:Int) K:=⟨_,Pk hn,hk⟩
theorem ND {k:IntKind} {n:Nat} (hn:n<=k.bits) (hk:K (.int k ((a/2^n:Nat):Int))):AC .shr k (a:Int) k' (n:Int) K:=⟨_,Ry hn,hk⟩
theorem MM (h:a<=4294967295) (hk:K (.int .u64 ((a*4294967296:Nat):Int))):AC .shl .u64 (a:Int) k' 32 K:=by
 refine W6 (n:=32) (by decide) ?_;rw[Rt,show a*2^32%18446744073709551616=a*4294967296 by omega];exact hk
theorem EW (hk:K (.int .u64 ((a/4294967296:Nat):Int))):AC .shr .u64 (a:Int) k' 32 K:=ND (n:=32) (by decide) hk
theorem UC (hk:K (.int .u64 ((a/9223372036854775808:Nat):Int))):AC .shr .u64 (a:Int) k' 63 K:=ND (n:=63) (by decide) hk
theorem rE (hk:K (.int .u64 ((a/4:Nat):Int))):AC .shr .u64 (a:Int) k' 2 K:=ND (n:=2) (by decide) hk
theorem rD (hk:K (.int .u32 ((a/65536:Nat):Int))):AC .shr .u32 (a:Int) k' 16 K:=ND (n:=16) (by decide) hk
theorem rF (hk:K (.int .u32 ((a/256:Nat):Int))):AC .shr .u32 (a:Int) k' 8 K:=ND (n:=8) (by decide) hk
theorem rC (hk:K (.int .u32 ((a/2:Nat):Int))):AC .shr .u32 (a:Int) k' 1 K:=ND (n:=1) (by decide) hk
theorem Z6 (w n:Nat):(BitVec.ofInt w (n:Int)).toNat=n%2^w:=by rw[BitVec.toNat_ofInt];omega
theorem Qo {n x y:Nat} (hx:x%2^n=0) (hy:y<2^n):x ||| y=x+y:=by
 have e:x=2^n*(x/2^n):=by have:=Nat.mod_add_div x (2^n);omega
 rw[e,<-Nat.two_pow_add_eq_or_of_lt hy]
theorem W5 {k:IntKind} (n:Nat) (hx:a%2^n=0) (hy:b<2^n) (h:a+b<2^k.bits) (hw:k.wrap ((a+b:Nat):Int)=((a+b:Nat):Int)) (hk:K (.int k ((a+b:Nat):Int))):AC .or k (a:Int) k (b:Int) K:=by
 refine T8 (v := .int k (k.wrap (BitVec.ofInt k.bits (a:Int) ||| BitVec.ofInt k.bits (b:Int)).toNat)) (by simp only[C9,if_true]) ?_;rw[BitVec.toNat_or,Z6,Z6,Nat.mod_eq_of_lt (by omega),Nat.mod_eq_of_lt (by omega),Qo hx hy,hw];exact hk
theorem NC (h:a%4294967296=0/\b<4294967296/\a+b<=18446744073709551615) (hk:K (.int .u64 ((a+b:Nat):Int))):AC .or .u64 (a:Int) .u64 (b:Int) K :=
 W5 32 h.1 h.2.1 (show a+b<18446744073709551616 by omega) (IntWalk.u64_in _ (by omega)) hk
theorem dC (h:a<=18446744073709551615) (hk:K (.int .u64 ((a%4294967296:Nat):Int))):AC .and .u64 (a:Int) .u64 4294967295 K:=by
 refine T8 (v := .int .u64 (IntKind.u64.wrap (BitVec.ofInt IntKind.u64.bits (a:Int) &&& BitVec.ofInt IntKind.u64.bits 4294967295).toNat)) (by simp only[C9,if_true]) ?_;rw[BitVec.toNat_and,Z6,show (BitVec.ofInt IntKind.u64.bits 4294967295).toNat=2^32-1 by decide,Nat.and_two_pow_sub_one_eq_mod,show a%2^IntKind.u64.bits=a from Nat.mod_eq_of_lt (show a<18446744073709551616 by omega),IntWalk.u64_in _ (by omega)];exact hk
theorem dB (hk:K (.int .u32 (((a+b)%4294967296:Nat):Int))):AC .add .u32 (a:Int) .u32 (b:Int) K :=
 T8 (v := .int .u32 (IntKind.u32.wrap ((a:Int)+b))) (by simp only[C9,if_true]) (by rw[<-Int.natCast_add,wrap_u32];exact hk)
end
section
variable {K:Int->Prop} {n:Nat}
theorem cU (h:n<=18446744073709551615) (hk:K (n:Int)):AQ .u64 (n:Int) K:=RP (IntWalk.u64_in _ (by omega)) hk
theorem D4 (h:n<=4294967295) (hk:K (n:Int)):AQ .u32 (n:Int) K:=RP (IntWalk.u32_in _ (by omega)) hk
theorem E8 (hk:K ((n%4294967296:Nat):Int)):AQ .u32 (n:Int) K:=by unfold AQ;rw[wrap_u32];exact hk
theorem qU (h:n<=255) (hk:K (n:Int)):AQ .u8 (n:Int) K:=RP (IntWalk.u8_in _ (by omega)) hk
end
theorem UK {tb:List Nat} {n v:Nat} {K:Nat->Prop} (hv:tb[n]? = some v) (hk:K v):O9 tb (n:Int) K:=⟨by omega,v,by rw[Int.toNat_natCast];exact hv,hk⟩
abbrev AL (n:Nat):List AV:=[.int .u32 (n:Int)]
theorem CT (l:List Nat):FM (l.map AL):=SA (λ_=>by simp [CQ,A1]) l
section
variable {l:List Nat} {K:List AV->Prop}
theorem UE {n:Nat} (hD:AZ l) (hn:n<l.length) (h : ∀ e,l[n]? = some e->e<4294967296->K (AL e)):AX (l.map AL) (n:Int) 1 K :=
 rN hn (λ_=>rfl) λ e he=>h e he (hD.at he)
theorem OB {a:Int} (hD:AZ l) (hn:0<=a/\a<l.length) (h : ∀ e,l[a.toNat]? = some e->e<4294967296->K (AL e)):AX (l.map AL) a 1 K :=
 W8 hn (λ_=>rfl) λ e he=>h e he (hD.at he)
theorem cZ {i:Nat} (hD:AZ l) (hi:i<l.length) (h : ∀ e,l[i]? = some e->e<4294967296->K (AL e)):A9 (l.map AL) (0+((i:Int)).toNat) 0 1 K :=
 dA (f:=AL) hi (λ_=>rfl) λ e he=>h e he (hD.at he)
theorem O5 {i:Int} (hD:AZ l) (hi:0<=i/\i<l.length) (h : ∀ e,l[i.toNat]? = some e->e<4294967296->K (AL e)):A9 (l.map AL) (0+i.toNat) 0 1 K :=
 T6 (f:=AL) hi (λ_=>rfl) λ e he=>h e he (hD.at he)
theorem EU {i v:Nat} {KK:List (List AV)->Prop} (hi:i<l.length) (h:KK ((l.set i v).map AL)):A4 (l.map AL) (0+((i:Int)).toNat) 0 [.int .u32 (v:Int)] KK:=I3 (enc:=AL) v rfl (λ_=>rfl) hi h
theorem UI {i v:Nat} {KK:List (List AV)->Prop} (n:Nat) (hn:i=n) (hi:n<l.length) (h:KK ((l.set n v).map AL)):A4 (l.map AL) i 0 [.int .u32 (v:Int)] KK:=O8 (enc:=AL) n v hn rfl (λ_=>rfl) hi h
end
end Go.c4
namespace Go.c4
variable {L:Lib}
theorem Ev.xE {f:Nat} {fn:AFn} {vs:List AV} {P:AV->Prop} (hL:L f=some fn) (hp:Nat.beq vs.length fn.v9=true) (hd:I6 vs=true) (h:AA L [.code fn.body] (CH 0 vs) [] (λ tm M => ∃ r,OC fn r tm M/\P r)) (hs:fn.kj=false:=by rfl) : ∃ r,Ev L f vs r/\P r:=by
 obtain ⟨n,c,j7,hr,σ,tm,M,hR,r,hq,hP⟩:=h (λ_ _=>(0,0)) ⟨CH 0 vs,AH.emp⟩ ⟨λ j=>Or.inr (by rw[IW];exact SD hd j),⟨(λ_ _ _ e=>by cases e),(λ_ _ _ e=>by simp [c6,c7]at e),(λ_ _ _ e=>by simp [c6,c7]at e),(λ_ _ _ _ _ _ e=>by simp [c6,c7]at e),(λ_ _ _ e=>by simp [c6,c7]at e)⟩⟩;exact ⟨r,Ev.fwd hL (BD.1 hp) ⟨n,c,j7,hr,dI hR hq⟩ hs,hP⟩
def RA:DL->Bool
 | .w9 .. | .box .. | .alloc .. | .c9 .. | .st .. | .mk .. | .app .. | .jq .. | .g6 .. | .n9 .. | .jl .. | .o6 .. | .az .. | .jn .. | .jm .. | .y6 .. => false
 | _=>true
def HI:BC->Bool
 | .skip=>true
 | .ops l _=>l.all λ a=>RA a.op
 | .dr c _ ss=>HI c&&ss.isEmpty
 | .scope c=>HI c
 | .seq a b=>HI a&&HI b
 | .cond _ a b=>HI a&&HI b
 | .block _ c=>HI c
 | .loop c=>HI c
 | .exit _=>true
 | .ret=>true
def NQ:It->Bool
 | .code c=>HI c
 | .iz _ ss=>ss.isEmpty
 | .e8 _=>true
 | .lp c=>HI c
theorem yE {C:Cl} {b9:List Nat} {ρ:AM->AV} {own:AH} {op:DL} {E:BW} (ho:RA op=true) (h:c8 C b9 ρ own op=some E) : ∃ v,E = .val v:=by
 cases op<;>first|(simp [RA]at ho;done)|skip
 all_goals simp only[c8]at h
 all_goals
  first
   | (simp only[Option.some.injEq]at h;exact ⟨_,h.symm⟩)
   | (simp only[Option.map_eq_some_iff]at h;obtain ⟨_,_,rfl⟩:=h;exact ⟨_,rfl⟩)
   | skip
 all_goals (repeat' split at h)
 all_goals
  first
   | (cases h;done)
   | (simp only[Option.some.injEq]at h;exact ⟨_,h.symm⟩)
   | (simp only[Option.map_eq_some_iff]at h;obtain ⟨_,_,rfl⟩:=h;exact ⟨_,rfl⟩)
theorem Sn {C:Cl} {a:AI} (ho:RA a.op=true) {s s':St} (h:C3 C a s=some s'):s'.own=s.own:=by
 unfold C3 at h;split at h
 ·cases he:c8 C a.b9 s.ev s.own a.op with
  | none=>rw[he]at h;cases h
  | some E =>
   rw[he]at h;obtain ⟨v,rfl⟩:=yE ho he;simp only[Option.map_some,Option.some.injEq]at h;subst h;simp only[St.app];cases a.dst<;>rfl
 ·simp only[Option.some.injEq]at h
  subst h;cases a.dst<;>rfl
 ·cases h
theorem oM {C:Cl} : ∀ {l:List AI},(l.all λ a=>RA a.op)=true -> ∀ {s s':St},C6 C l s=some s'->s'.own=s.own
 | [],_,s,s',h=>by simp only[C6,Option.some.injEq]at h;rw[h]
 | a::l,ho,s,s',h=>by
  simp only[List.all_cons,Bool.and_eq_true]at ho;simp only[C6]at h;cases h1:C3 C a s with
  | none=>rw[h1]at h;cases h
  | some s1 =>
   rw[h1]at h;rw[oM ho.2 h,Sn ho.1 h1]
theorem ST {id:Nat} : ∀ {k k':List It},k.all NQ=true->EX id k=some k'->k'.all NQ=true
 | [],_,_,h=>by simp [EX]at h
 | it::k,k',hk,h=>by
  simp only[List.all_cons,Bool.and_eq_true]at hk;cases it with
  | e8 i =>
   simp only[EX]at h;split at h
   ·cases h;exact hk.2
   ·exact ST hk.2 h
  | code c=>simp only[EX]at h;exact ST hk.2 h
  | iz a b=>simp only[EX]at h;exact ST hk.2 h
  | lp c=>simp only[EX]at h;exact ST hk.2 h
theorem HU {C:Cl} : ∀ (n:Nat) {k:List It},k.all NQ=true -> ∀ {s s':St},run C n k s=some s'->s'.own=s.own
 | 0,k,_,s,s',h=>by simp [run]at h
 | n+1,[],_,s,s',h=>by
  simp only[run,Option.some.injEq]at h;rw[h]
 | n+1,it::k,hk,s,s',h=>by
  have dn:=hk;simp only[List.all_cons,Bool.and_eq_true]at hk;obtain ⟨hi,hk⟩:=hk;cases it with
  | e8 _=>simp only[run]at h;exact HU n hk h
  | iz ts ss =>
   have:ss=[]:=by simpa [NQ] using hi
   subst this;simp only[run]at h;rw[HU n hk h];rfl
  | lp c=>simp only[run]at h;exact HU n (by simp only[List.all_cons,Bool.and_eq_true];exact ⟨hi,hi,hk⟩) h
  | code c =>
   cases c with
   | skip=>simp only[run]at h;exact HU n hk h
   | ops l d =>
    simp only[run]at h;cases h1:C6 C l s with
    | none=>rw[h1]at h;cases h
    | some s1 =>
     rw[h1]at h;rw[HU n hk h,oM (show (l.all λ a=>RA a.op)=true from hi) h1]
   | dr c ts ss =>
    simp only[run]at h;simp only[NQ,HI,Bool.and_eq_true]at hi;exact HU n (by simp only[List.all_cons,Bool.and_eq_true];exact ⟨hi.1,hi.2,hk⟩) h
   | scope c=>simp only[run]at h;exact HU n (by simp only[List.all_cons,Bool.and_eq_true];exact ⟨hi,hk⟩) h
   | seq a b =>
    simp only[run]at h;simp only[NQ,HI,Bool.and_eq_true]at hi;exact HU n (by simp only[List.all_cons,Bool.and_eq_true];exact ⟨hi.1,hi.2,hk⟩) h
   | cond x a b =>
    simp only[NQ,HI,Bool.and_eq_true]at hi;simp only[run]at h;split at h
    ·exact HU n (by simp only[List.all_cons,Bool.and_eq_true];exact ⟨hi.1,hk⟩) h
    ·exact HU n (by simp only[List.all_cons,Bool.and_eq_true];exact ⟨hi.2,hk⟩) h
    ·cases h
   | block id c=>simp only[run]at h;exact HU n (by simp only[List.all_cons,Bool.and_eq_true];exact ⟨hi,rfl,hk⟩) h
   | loop c=>simp only[run]at h;exact HU n (by simp only[List.all_cons,Bool.and_eq_true];exact ⟨hi,hi,hk⟩) h
   | exit id =>
    simp only[run]at h;split at h
    ·rename_i k' he
     exact HU n (ST hk he) h
    ·cases h
   | ret =>
    simp only[run,Option.some.injEq]at h;rw[h]
def rP (fn:AFn) (r:AV) (tm:Tm) (_M:Mem):Prop := ∃ rs,OT tm fn.res=some rs/\G8 rs=r
def U7:AV->Bool
 | .j5 vs=>I6 vs
 | v=>OH v
theorem fZ {σ:FA} {v:AV} (h:U7 v=true):BB σ v=v:=by
 cases v with
 | j5 vs =>
  simp only[BB];congr 1;simp only[U7]at h;induction vs with
  | nil=>rfl
  | cons v r ih =>
   simp only[I6]at h;cases hv:OH v<;>simp only[hv,cond_true,cond_false]at h
   ·cases h
   ·rw[List.map_cons,ih h]
    congr 1;cases v<;>first|rfl|(simp [OH,nu]at hv;done)|skip
    rename_i cs;exact U6 (σ:=σ) (v := .agg cs) hv
 | _=>exact U6 (σ:=σ) h
def RV (L:Lib) (f:Nat) (vs:List AV) (r:AV):Prop:=U7 r=true/\(∀ σ:FA,vs.map (BB σ)=vs) /\ ∀ own:AH,FX L f vs own r own
theorem fX {σ:FA} : ∀ {vs:List AV},I6 vs=true->vs.map (BB σ)=vs
 | [],_=>rfl
 | v::r,h=>by
  simp only[I6]at h;cases hv:OH v<;>simp only[hv,cond_true,cond_false]at h
  ·cases h
  ·rw[List.map_cons,U6 hv,fX h]
theorem rR {f:Nat} {fn:AFn} {vs:List AV} {r:AV} (hL:L f=some fn) (hp:Nat.beq vs.length fn.v9=true) (hd:I6 vs=true) (Ao:HI fn.body=true) (l6:TI 100000 fn.res=true) (hr:U7 r=true) (h:AA L [.code fn.body] (CH 0 vs) [] (rP fn r)):RV L f vs r:=by
 refine ⟨hr,λ σ=>fX hd,λ own => ?_⟩;obtain ⟨n,c,j7,m6,σ,tm,M,hR,rs,Ap,he⟩:=h (λ_ _=>(0,0)) ⟨CH 0 vs,own⟩ ⟨λ j=>Or.inr (by rw[IW];exact SD hd j),⟨(λ_ _ _ e=>by cases e),(λ_ _ _ e=>by simp [c6,c7]at e),(λ_ _ _ e=>by simp [c6,c7]at e),(λ_ _ _ _ _ _ e=>by simp [c6,c7]at e),(λ_ _ _ e=>by simp [c6,c7]at e)⟩⟩;have ho:=HU n (by simp [NQ,Ao]) m6;obtain ⟨i1,i2⟩:=aK (N:=100000) (s:=j7) hR (λ_ _=>rfl) l6 Ap;refine FX.intro hL (BD.1 hp) ⟨n,c,j7,m6,?_,ho⟩;rw[i1,Option.map_some,mX i2,he,fZ hr]
theorem I1 {f:Nat} {vs:List AV} {r:AV} {tm:Tm} {M:Mem} {K:AV->Mem->Prop} (h:RV L f vs r) (hk:K r M):A5 L f vs tm M K:=by
 intro σ own hs;refine ⟨r,own,σ,M,?_,hs,λ_=>rfl,hk⟩;rw[h.2.1 σ,fZ h.1];exact h.2.2 own
end Go.c4

namespace Go.c4
variable {L:Lib}
def dH (fn:AFn) (z:Nat) (es:List (List AV)) (tm:Tm) (M:Mem):Prop:=match fn.res with
 | [.tmp t]=>match tg tm t with
  | .row k 0 z' 0 n=>match c7 M k with
   | some (_,.rw y5 es')=>z'=z/\y5=z/\n=es.length/\es'=es/\FM es
   | _=>False
  | _=>False
 | _=>False
theorem NA.x {f:Nat} {fn:AFn} {vs:List AV} {z:Nat} {es:List (List AV)} (hL:L f=some fn) (hp:Nat.beq vs.length fn.v9=true) (hd:I6 vs=true) (h:AA L [.code fn.body] (CH 0 vs) [] (dH fn z es)):NA L f vs z es:=by
 obtain ⟨n,c,j7,hr,σ,tm,M,hR,hq⟩:=h (λ_ _=>(0,0)) ⟨CH 0 vs,AH.emp⟩ ⟨λ j=>Or.inr (by rw[IW];exact SD hd j),⟨(λ_ _ _ e=>by cases e),(λ_ _ _ e=>by simp [c6,c7]at e),(λ_ _ _ e=>by simp [c6,c7]at e),(λ_ _ _ _ _ _ e=>by simp [c6,c7]at e),(λ_ _ _ e=>by simp [c6,c7]at e)⟩⟩;unfold dH at hq;split at hq
 ·rename_i t jy
  split at hq
  ·rename_i k z' m Im
   split at hq
   ·rename_i s y5 es' hM
    obtain ⟨rfl,rfl,rfl,rfl,n6⟩:=hq;have hv:e9 j7.tm t = .row (σ k 0).1 (σ k 0).2 y5 0 es'.length:=by
     rcases hR.tm t with e|e
     ·rw[Im]at e;cases e
     ·rw[e,Im];rfl
    have hb:=hR.sat.e8 k 0 (.rw y5 es') (by simp only[c6,hM]);obtain ⟨q,hq⟩:=FX.intro (r := .row (σ k 0).1 (σ k 0).2 y5 0 es'.length) (o':=j7.own) hL (BD.1 hp) ⟨n,c,j7,hr,by simp [jy,EQ,hv,H8,G8],rfl⟩;refine ⟨q,?_⟩;simp only[hq,MO,AH.get,hb];rw[if_pos (show (A3.e8 σ k (.rw y5 es')).es.length=es'.length/\FM (A3.e8 σ k (.rw y5 es')).es from ⟨rfl,n6⟩)];rfl
   ·exact hq.elim
  ·exact hq.elim
 ·exact hq.elim
theorem ML {α:Type} {enc:α->List AV} {l:List α} {f z:Nat} {vs:List AV} {K:Nat->List (List AV)->Nat->Prop} (n:Nat) (h:NA L f vs z (l.map enc)) (hn:n=l.length) (hk:K z (l.map enc) n):B9 L f vs K:=⟨z,_,n,h,by simpa using hn,hk⟩
end Go.c4

namespace Go.c4
open F
attribute [local irreducible] AA AF AU AC B6 AQ AX A9 A4 BS AP BR B0 C2 BN A0 BK B2 AB A5 AJ pw CG B4 CM CZ CU CP CN BJ B9
set_option maxHeartbeats 1000000
variable {L:Lib}
def HZ (n:Int):Prop := -9223372036854775808<=n/\n<=9223372036854775807
structure Wd where
 b:Int
 f:Int
 r:Int
 o:Int
def WV (w:Wd):Prop:=4<=w.b/\w.b<=24/\0<=w.f/\w.f<w.b/\1<=w.r/\w.r<=3/\1<=w.o/\w.o<=2
instance (w : Wd) : Decidable (WV w) := by unfold WV; infer_instance
variable (w:Wd)
def Nm:Int:=if WV w then -pw (w.b-1) else 0
def Kc:Int:=if WV w then pw (w.b-1)-1 else 0
def FT (v:Int):Prop:=WV w/\Nm w<=v/\v<=Kc w
instance (v : Int) : Decidable (FT w v) := by unfold FT; infer_instance
end Go.c4

namespace Go.c4
open F
attribute [local irreducible] AA AF AU AC B6 AQ AX A9 A4 BS AP BR B0 C2 BN A0 BK B2 AB A5 AJ pw CG B4 CM CZ CU CP CN BJ B9
set_option maxHeartbeats 1000000
variable {L:Lib}
structure Nd where
 q:Bool
 ts:List (Int × Int)
structure Nt where
 d:Wd
 c:Wd
 s:Int
 qn:Bool
 nodes:List Nd
 qx:Bool
 next:List Int
 out:Int
variable (n:Nt)
end Go.c4

namespace Go.c4
open F
attribute [local irreducible] AA AF AU AC B6 AQ AX A9 A4 BS AP BR B0 C2 BN A0 BK B2 AB A5 AJ pw CG B4 CM CZ CU CP CN BJ B9
variable {L:Lib}
set_option maxHeartbeats 1000000
def FU (v m:Int):Int:=if m<1 then 0 else v%m
theorem YY (W:s8 L) (v m:Int) (hv:HZ v) (hm:m<=9223372036854775807):Ev L 34 [.int .i64 v,.int .i64 m] (.int .i64 (FU v m)):=by
 unfold HZ at hv;refine Ev.x W.MK rfl rfl ?_;(repeat' ((first|(apply AG<;>intro hc<;>try (exfalso;omega))|(apply AY;omega)|(refine QL ?_ (λ_ _ _ => ?_) (λ_ _ _ _ => ?_);omega;all_goals try (exfalso;omega))|apply AE)<;>conv=>whnf))
 all_goals (refine CY ?_;unfold FU;first|rw[if_pos (by omega)]|rw[if_neg (by omega)])
 all_goals omega
def G3 (l:List Int) (i:Int):Int:=if 0<=i/\i<l.length then l.getD i.toNat 0 else 0
theorem Lu (W:s8 L) (l:List Int) (q:Bool) (i:Int):Ev L 35 [.sl q (l.map QT),.int .i64 i] (.int .i64 (G3 l i)):=by
 refine Ev.x W.MI rfl rfl ?_;(repeat' ((first|(apply AG<;>intro hc<;>try (exfalso;omega))|apply AR|(refine W8 ?_ (λ_=>rfl) (λ e he => ?_);omega)|apply AE)<;>conv=>whnf))
 all_goals (refine CY ?_;unfold G3;first|rw[if_neg (by omega)]|(rw[if_pos (by omega),List.getD_eq_getElem?_getD,he];rfl))
theorem pI {v m:Int} (h:1<=m):0<=FU v m/\FU v m<m:=by
 unfold FU;rw[if_neg (by omega)];exact ⟨Int.emod_nonneg _ (by omega),Int.emod_lt_of_pos _ (by omega)⟩
def C0 (a b:Int):Int:=if a<b then -1 else if b<a then 1 else 0
theorem HJ {a b:Int} (h:a<b) : -1=C0 a b:=by unfold C0;rw[if_pos h]
theorem MT {a b:Int} (h:b<a):1=C0 a b:=by unfold C0;rw[if_neg (by omega),if_pos h]
theorem PG {a b:Int} (h:a=b):0=C0 a b:=by unfold C0;rw[if_neg (by omega),if_neg (by omega)]
theorem yV (N:c5 L) (a:Int):Ev L 58 [.int .i64 a] (.bool false):=by
 refine Ev.x N.JJ rfl rfl ?_;(repeat' ((first|(apply AG<;>intro hc<;>try (exfalso;omega))|apply AE)<;>conv=>whnf))
 exact JG rfl
theorem yW (N:c5 L) (a:Int):Ev L 59 [.int .u32 a] (.bool false):=by
 refine Ev.x N.JK rfl rfl ?_;(repeat' ((first|(apply AG<;>intro hc<;>try (exfalso;omega))|apply AE)<;>conv=>whnf))
 exact JG rfl
theorem yL (N:c5 L) (a b:Int):Ev L 60 [.int .i64 a,.int .i64 b] (.int .i64 (C0 a b)):=by
 refine Ev.x N.JH rfl rfl ?_;(repeat' ((first|(apply AG<;>intro hc<;>try (exfalso;omega))|apply AE|refine AD (yV N _) ?_)<;>conv=>whnf))
 ·exact CY (HJ (by omega))
 ·exact CY (MT (by omega))
 ·exact CY (PG (by omega))
theorem yM (N:c5 L) (a b:Int):Ev L 61 [.int .u32 a,.int .u32 b] (.int .i64 (C0 a b)):=by
 refine Ev.x N.JI rfl rfl ?_;(repeat' ((first|(apply AG<;>intro hc<;>try (exfalso;omega))|apply AE|refine AD (yW N _) ?_)<;>conv=>whnf))
 ·exact CY (HJ (by omega))
 ·exact CY (MT (by omega))
 ·exact CY (PG (by omega))
theorem iE (N:c5 L) (l:List Nat) (q:Bool) (hl:l.length<=1099511627776):Ev L 62 [.sl q (l.map AL)] (.sl false (l.map AL)):=by
 cases l with
 | nil =>
  refine E9.nil N.GW (E9.x N.GW rfl rfl ?_) (E9.x N.GW rfl rfl ?_)
  ·(repeat' (apply AE<;>conv=>whnf))
   exact AW rfl (by simp [A1,FM])
  ·(repeat' (apply AE<;>conv=>whnf))
   refine cQ (enc:=AL) (l:=[]) (l':=[]) rfl (λ_=>rfl) (by simp) (by simp) ?_;(conv=>whnf)
   (repeat' ((refine DE (λ_=>rfl) rfl ?_ ?_;(first|rfl|simp))<;>conv=>whnf))
   exact AW rfl (by simp [A1,FM])
 | cons d l =>
  refine E9.cons (E9.x N.GW rfl rfl ?_);(repeat' (apply AE<;>conv=>whnf))
  refine BA (by simp) ?_;(conv=>whnf)
  skip
  refine cQ (enc:=AL) (l:=[]) (l':=d::l) rfl (λ_=>rfl) (by simp at hl ⊢;omega) (by simp at hl ⊢;omega) ?_;(conv=>whnf)
  (repeat' ((refine DE (λ_=>rfl) rfl ?_ ?_;(first|rfl|simp))<;>conv=>whnf))
  exact AW rfl (by simp only[A1,true_and];exact CT (d::l))
theorem JD (N:c5 L) (l:List Nat) (q:Bool) (hD:AZ l) (hl:l.length<=1099511627776):RV L 65 [.sl q (l.map AL)] (.sl q ((dg (val l)).map AL)):=by
 refine rR N.E6 rfl rfl rfl rfl rfl ?_;(repeat' ((first|apply AR|apply AE)<;>conv=>whnf))
 refine CK (λ n=>n) (λ(n:Nat)=>n<=l.length /\ ∀ i,n<=i->i<l.length->l[i]? = some 0) (λ n=>[(3,.int .i64 n)]) (λ_=>[]) [] [] l.length (by (conv=>whnf);exact ⟨rfl,rfl,rfl⟩) ⟨Nat.le_refl _,λ i h1 h2=>by omega⟩ ?_;intro n ⟨p1,p2⟩ ih;rcases n with _|n
 ·(repeat' ((first|(apply AG<;>intro hc<;>try (exfalso;omega))|apply AE)<;>conv=>whnf))
  refine O7 (k:=0) (λ_=>rfl) (by omega) ?_;(conv=>whnf)
  refine ⟨_,rfl,?_⟩;rw[FN hD p1 p2 (Or.inl rfl)];rfl
 ·have e1:((n+1:Nat):Int)-1=n:=by omega
  (repeat' ((first|(apply AG<;>intro hc<;>try (exfalso;omega))|(apply B1;omega)|(refine OB (by assumption) ?_ (λ e he hb => ?_);omega)|apply AE)<;>conv=>whnf))
  ·rw[e1]
   exact BQ [] (ih n (by omega) ⟨by omega,λ i h1 h2=>by
    by_cases h:i=n
    ·subst h
     rw[e1,Int.toNat_natCast]at he;rw[he];congr 1;omega
    ·exact p2 i (by omega) h2⟩)
  ·refine O7 (k:=n+1) (λ_=>rfl) (by omega) ?_
   (conv=>whnf)
   refine ⟨_,rfl,?_⟩;rw[e1,Int.toNat_natCast]at he;rw[FN hD p1 p2 (Or.inr ⟨e,he,by omega⟩)];rfl
theorem SL (N:c5 L) (l:List Nat) (q:Bool) (hD:AZ l) (hl:l.length<=1099511627776):Ev L 66 [.sl q (l.map AL)] (.sl false ((dg (val l)).map AL)):=by
 have hc:=EG hD;refine Ev.x N.J5 rfl rfl ?_;(repeat' ((first|apply AE|refine I1 (JD N l _ hD hl) ?_|refine AD (iE N (dg (val l)) _ (by omega)) ?_)<;>conv=>whnf))
 exact AW rfl (by simp only[A1,true_and];exact CT _)
theorem uL {a b:Nat} (h:((dg a).length:Int)≠(dg b).length):C0 (dg a).length (dg b).length=C0 a b:=by
 rcases Nat.lt_trichotomy (dg a).length (dg b).length with h1|h1|h1
 ·have:=RM h1
  rw[<-HJ (by omega),<-HJ (by omega)]
 ·omega
 ·have:=RM h1
  rw[<-MT (by omega),<-MT (by omega)]
theorem NM (N:c5 L) (a b:List Nat) (q1 q2:Bool) (hA:AZ a) (hB:AZ b) (la:a.length<=1099511627776) (lb:b.length<=1099511627776):Ev L 67 [.sl q1 (a.map AL),.sl q2 (b.map AL)] (.int .i64 (C0 (val a) (val b))):=by
 have l1:=EG hA;have l2:=EG hB;have d1:=DK (val a);have d2:=DK (val b);refine Ev.x N.J1 rfl rfl ?_;(repeat' ((first|(apply AG<;>intro hc<;>try (exfalso;omega))|(apply B1;omega)|apply AR|apply AE|refine I1 (JD N a _ hA la) ?_|refine I1 (JD N b _ hB lb) ?_|refine AD (yL N _ _) ?_)<;>conv=>whnf))
 ·exact CY (uL (by omega))
 have hlen:(dg (val a)).length=(dg (val b)).length:=by omega
 have v1:=BL (val a);have v2:=BL (val b);generalize dg (val a)=X at *;generalize dg (val b)=Y at *;refine CK (λ n=>n) (λ(n:Nat)=>n<=X.length/\X.drop n=Y.drop n) (λ n=>[(7,.int .i64 ((n:Int)-1))]) (λ_=>[]) [] [] X.length (by (conv=>whnf);exact ⟨rfl,rfl,rfl⟩) ⟨Nat.le_refl _,by rw[List.drop_of_length_le (Nat.le_refl _),List.drop_of_length_le (by omega)]⟩ ?_;intro n ⟨p1,p2⟩ ih;rcases n with _|n
 ·(repeat' ((first|(apply AG<;>intro hc<;>try (exfalso;omega))|apply AE)<;>conv=>whnf))
  rw[List.drop_zero,List.drop_zero]at p2;exact CY (PG (by rw[<-v1,<-v2,p2]))
 ·have e1:((n+1:Nat):Int)-1=n:=by omega
  rw[e1];(repeat' ((first|(apply AG<;>intro hc<;>try (exfalso;omega))|(apply B1;omega)|(refine BG (by assumption) ?_ rfl ?_;omega)|(refine UE (by assumption) ?_ (λ e he hb => ?_);omega)|apply AE|refine AD (yM N _ _) ?_)<;>conv=>whnf))
  ·rename_i x hx _
   rcases Nat.lt_trichotomy x e with h|h|h
   ·have:=WR d1 d2 hlen hx he p2 h
    refine CY ?_;rw[<-HJ (by omega),<-HJ (by omega)]
   ·omega
   ·have:=WR d2 d1 hlen.symm he hx p2.symm h
    refine CY ?_;rw[<-MT (by omega),<-MT (by omega)]
  ·rename_i x hx _
   refine BV [] (by (conv=>whnf);exact ⟨rfl,rfl,rfl⟩) (ih n (by omega) ⟨by omega,?_⟩);obtain ⟨i1,e1⟩:=zS hx;obtain ⟨i2,e2⟩:=zS he;rw[List.drop_eq_getElem_cons i1,List.drop_eq_getElem_cons i2,p2,e1,e2];congr 1;omega
end Go.c4

namespace Go.c4
section
variable {U V UL VL p u0 u1 u2 v1 v2 top q r:Nat}
theorem Kq (hU:U=UL+p*(u2+4294967296*top)) (hV:V=VL+p*(v2+4294967296*v1)) (hl:UL<p) (h2:u2<4294967296) (v8:0<V):U/V*v1<=top:=by
 have h1:U/V*V<=U:=Nat.div_mul_le_self U V;generalize U/V=Q at *;have h3:U<p*(4294967296*(top+1)):=by
  have:p*(u2+4294967296*top)+p<=p*(4294967296*(top+1)):=by
   rw[<-Nat.mul_succ];exact Nat.mul_le_mul_left p (by omega)
  omega
 have h4:p*(4294967296*(Q*v1))<=Q*V:=by
  have e:Q*V=Q*VL+Q*(p*v2)+p*(4294967296*(Q*v1)):=by rw[hV];grind
  omega
 have h5:p*(4294967296*(Q*v1))<p*(4294967296*(top+1)):=by omega
 have:=Nat.lt_of_mul_lt_mul_left h5
 omega
theorem Kp (hU:U=UL+p*(u2+4294967296*top)) (hV:V=VL+p*(v2+4294967296*v1)) (hl:UL<p) (hq:q*v1+r=top) (h:r*4294967296+u2<q*v2) (v8:0<V):U/V<q:=by
 rw[Nat.div_lt_iff_lt_mul v8];have e:q*V=q*VL+p*(q*v2+4294967296*(q*v1)):=by rw[hV];grind
 have h1:p*(u2+4294967296*top)+p<=p*(q*v2+4294967296*(q*v1)):=by
  rw[<-Nat.mul_succ];exact Nat.mul_le_mul_left p (by omega)
 omega
theorem Ko (h:U<4294967296*V) (hq:4294967296<=q) (v8:0<V):U/V<q:=by
 have:U/V<4294967296:=(Nat.div_lt_iff_lt_mul v8).2 h
 omega
theorem kC (hU:U=UL+p*(u2+4294967296*top)) (hV:V=VL+p*(v2+4294967296*v1)) (uj:VL<p) (h1:2147483648<=v1) (hq:q*v1+r=top) (h:q*v2<=r*4294967296+u2) (Yl:q<4294967296):q<=U/V+1:=by
 have v8:0<V:=by
  have:p*4294967296<=p*(v2+4294967296*v1):=Nat.mul_le_mul_left p (by omega)
  omega
 by_cases h0:q=0
 ·subst h0;exact Nat.zero_le _
 have e:q*V=q*VL+p*(q*v2+4294967296*(q*v1)):=by rw[hV];grind
 have h2:p*(q*v2+4294967296*(q*v1))<=p*(u2+4294967296*top):=Nat.mul_le_mul_left p (by omega);have h3:q*VL<V:=by
  have a1:q*VL<=4294967296*VL:=Nat.mul_le_mul_right _ (by omega);have a2:p*4294967296<=p*(v2+4294967296*v1):=Nat.mul_le_mul_left p (by omega);omega
 have h4:(q-1)*V<U+1:=by
  have:(q-1)*V+V=q*V:=by
   have:q=q-1+1:=by omega
   rw[<-Nat.succ_mul,Nat.succ_eq_add_one,<-this]
  omega
 have h5:q-1<=U/V:=(Nat.le_div_iff_mul_le v8).2 (by omega);omega
end
theorem gD {U V U' q:Nat} (v8:0<V) (h1:U/V<=q) (h:U'+q*V=U):q=U/V/\U'=U%V:=by
 have h2:q*V<=U:=by omega
 have h3:q<=U/V:=(Nat.le_div_iff_mul_le v8).2 h2;have h4:q=U/V:=by omega
 have:=Nat.div_add_mod U V
 rw[Nat.mul_comm,<-h4]at this;exact ⟨h4,by omega⟩
theorem gC {U V U' q P:Nat} (v8:0<V) (h2:q<=U/V+1) (wq:U'<P) (h:U'+q*V=U+P):q-1=U/V/\1<=q/\U'+V=U%V+P:=by
 have h3:U/V*V<=U:=Nat.div_mul_le_self U V;have h4:U/V<q:=by
  rcases Nat.lt_or_ge (U/V) q with h|h
  ·exact h
  ·have:q*V<=U/V*V:=Nat.mul_le_mul_right _ h
   omega
 have h6:=Nat.div_add_mod U V;rw[Nat.mul_comm]at h6;generalize U/V=Q at *;generalize U%V=R at *;obtain rfl:q=Q+1:=by omega
 rw[Nat.add_mul,Nat.one_mul]at h;exact ⟨by omega,by omega,by omega⟩
theorem WO {u pl bw:Nat} (hu:u<4294967296) (hp:pl<4294967296) (hb:bw<=1):EB (EB u pl) bw%4294967296+pl+bw=u+4294967296*(EB (EB u pl) bw/9223372036854775808)/\EB (EB u pl) bw/9223372036854775808<=1:=by
 rw[QE,QE];omega
theorem Su {d e bw:Nat} (hu:d<4294967296) (hp:e<4294967296) (hb:bw<=1):EB (EB d bw) e%4294967296+e+bw=d+4294967296*(EB (EB d bw) e/9223372036854775808)/\EB (EB d bw) e/9223372036854775808<=1:=by
 rw[QE,QE];omega
theorem Ss {d bw:Nat} (hu:d<4294967296) (hb:bw<=1):EB d bw%4294967296+bw=d+4294967296*(EB d bw/9223372036854775808)/\EB d bw/9223372036854775808<=1:=by
 rw[QE];omega
theorem oO {V Y X p D e bw y8 d:Nat} (h:V+Y=X+p*bw) (hd:D+e+bw=d+4294967296*y8):V+p*D+(Y+p*e)=X+p*d+p*4294967296*y8:=by
 have h2:p*D+p*e+p*bw=p*d+p*4294967296*y8:=by
  rw[<-Nat.mul_add,<-Nat.mul_add,hd,Nat.mul_add,Nat.mul_assoc]
 omega
theorem Q8 {a b:Nat} (ha:a<4294967296) (hb:b<4294967296):a*b<=18446744065119617025 :=
 Nat.mul_le_mul (show a<=4294967295 by omega) (show b<=4294967295 by omega)
theorem gE {X Y s:Nat} (hs:0<s):X*s/(Y*s)=X/Y/\X*s%(Y*s)/s=X%Y:=by
 refine ⟨Nat.mul_div_mul_right X Y hs,?_⟩;rw[Nat.mul_mod_mul_right,Nat.mul_div_cancel _ hs]
end Go.c4
