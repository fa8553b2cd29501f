/-
  The walk by computation is sound: calls, regions, code, loops, functions.
-/
import Derived.Test.YtcoldcgafbbjoaaGreatB6
import Derived.Test.YtcoldcgafbbjoaaGreatB5
import Derived.Test.YtcoldcgafbbjoaaGreatB4
import Derived.Test.YtcoldcgafbbjoaaGreatB2
set_option linter.unusedSimpArgs false
set_option linter.unusedVariables false
set_option linter.unnecessarySimpa false
namespace Go.g6
section
variable {σ:E7} {tm:Tm} {M:Mem} {st:St} {L:Lib} {b9:List Nat}
theorem sG {own:AH} {q:Bool} {d:Nat} : ∀ {e:List AV},FY e=true->e.mapM (snap own q d)=some e
 | [],_=>rfl
 | v::r,h=>by
  have hv:snap own q d v=some v/\FY r=true:=by
   cases v<;>simp only[FY]at h<;>first|cases h|exact ⟨by cases d<;>rfl,h⟩
  rw[List.mapM_cons,hv.1,sG hv.2];rfl
theorem sI {own:AH} {q:Bool} {d:Nat} : ∀ {e:List AV},MB e=true->e.mapM (snap own q d)=some (e.map nl)
 | [],_=>rfl
 | v::r,h=>by
  have hv:snap own q d v=some (nl v)/\MB r=true:=by
   cases v<;>simp only[MB]at h<;>first|cases h|exact ⟨by cases d<;>rfl,h⟩
  rw[List.mapM_cons,hv.1,sI hv.2];rfl
theorem sH {own:AH} {q:Bool} {d:Nat} : ∀ {es:List (List AV)},(∀ e∈es,MB e=true)->es.mapM (λ cs:List AV=>cs.mapM (snap own q d))=some (es.map λ e=>e.map nl)
 | [],_=>rfl
 | e::r,h=>by
  rw[List.mapM_cons,sI (h e List.mem_cons_self),sH λ x hx=>h x (List.mem_cons_of_mem _ hx)];rfl
theorem sF {own:AH} {q:Bool} {d:Nat} : ∀ {es:List (List AV)},(∀ e∈es,FY e=true)->es.mapM (λ cs:List AV=>cs.mapM (snap own q d))=some es
 | [],_=>rfl
 | e::r,h=>by
  rw[List.mapM_cons,sG (h e List.mem_cons_self),sF λ x hx=>h x (List.mem_cons_of_mem _ hx)];rfl
theorem uT (hs:GO σ st.own M) {q:Bool} {v:AV} {K:AV->Prop} (h:R9 q M b9 v K) : ∃ v',(∀ d,snap (st.own.l9 b9) q (d+1) (BA σ v)=some v')/\K v'/\v ≠ .any/\BM σ v=BA σ v:=by
 cases v with
 | row key t z off len =>
  have fin : ∀ (z':Nat) (es:List (List AV)),((st.own.l9 b9) (σ key t).1).g8 (σ key t).2=some ⟨z',es⟩->z=z'->BF es off len (λ es=>K (.sl q es)) -> ∃ v',(∀ d,snap (st.own.l9 b9) q (d+1) (BA σ (.row key t z off len))=some v')/\K v'/\AV.row key t z off len ≠ .any/\BM σ (.row key t z off len)=BA σ (.row key t z off len):=by
   intro z' es hb hz h;subst hz;obtain ⟨h1,h2,h3⟩:=h;refine ⟨_,λ d => ?_,h3,(by intro e;cases e),rfl⟩;simp only[BA,snap,EM,AH.get,hb];rw[if_pos ⟨h1,trivial⟩];simp only;rw[sH λ e he=>h2 e (List.mem_of_mem_drop (List.mem_of_mem_take he))];rfl
  simp only[R9]at h;split at h
  ·rename_i s z' es hm
   split at h
   ·cases hz:Nat.beq z z'<;>simp only[hz,cond_true,cond_false]at h
    cases hb:P7 s b9<;>simp only[hb,cond_true,cond_false]at h;refine fin z' es ?_ (BQ.1 hz) h;have cj:=hs.g8 _ _ _ (EE hm);rw[hs.site _ _ _ hm]at cj ⊢;rw[TM hb];exact cj
   ·exact h.elim
  ·rename_i s rows hm
   split at h
   ·exact h.elim
   ·rename_i i
    split at h
    ·obtain ⟨z',es,g,h⟩:=h
     cases hz:Nat.beq z z'<;>simp only[hz,cond_true,cond_false]at h;exact fin z' es (hs.g8 key (i+1) (.rw z' es) (by simp [c5,hm,g])) (BQ.1 hz) h
    ·rename_i b r
     cases hb:RQ (b::r)<;>simp only[hb,cond_true,cond_false]at h;obtain ⟨z',es,g,h⟩:=h;cases hz:Nat.beq z z'<;>simp only[hz,cond_true,cond_false]at h;have g':c5 M key (i+1)=some (.rw z' es):=by simp [c5,hm,g]
     refine fin z' es ?_ (BQ.1 hz) h;rw[gC (hs.low _ _ _ g' rfl) hb];exact hs.g8 key (i+1) (.rw z' es) g'
  ·exact h.elim
 | int k n=>exact ⟨_,λ d=>rfl,h,(by intro e;cases e),rfl⟩
 | bool b=>exact ⟨_,λ d=>rfl,h,(by intro e;cases e),rfl⟩
 | sl l es=>exact ⟨_,λ d=>rfl,h,(by intro e;cases e),rfl⟩
 | dm c=>exact ⟨_,λ d=>rfl,h,(by intro e;cases e),rfl⟩
 | nil=>exact ⟨_,λ d=>rfl,h,(by intro e;cases e),rfl⟩
 | _=>exact (h:False).elim
theorem uS (hs:GO σ st.own M) {q:Bool} : ∀ {l:List AV} {K:List AV->Prop},Z1 q M b9 l K -> ∃ l',(∀ d,(l.map (BA σ)).mapM (snap (st.own.l9 b9) q (d+1))=some l')/\K l'
 | [],K,h=>⟨[],λ d=>rfl,h⟩
 | v::r,K,h=>by
  obtain ⟨v',h1,h2,_⟩:=uT hs (show R9 q M b9 v λ v'=>Z1 q M b9 r λ r'=>K (v'::r') from h);obtain ⟨l',h3,h4⟩:=uS hs h2;refine ⟨v'::l',λ d => ?_,h4⟩;rw[List.map_cons,List.mapM_cons,h1 d,h3 d];rfl
theorem uR (hs:GO σ st.own M) {q:Bool} : ∀ {l:List (List AV)} {K:List (List AV)->Prop},gZ q M b9 l K -> ∃ l',(∀ d,(l.map λ cs=>cs.map (BA σ)).mapM (λ cs:List AV=>cs.mapM (snap (st.own.l9 b9) q (d+1)))=some l')/\K l'
 | [],K,h=>⟨[],λ d=>rfl,h⟩
 | v::r,K,h=>by
  obtain ⟨v',h1,h2⟩:=uS hs (show Z1 q M b9 v λ v'=>gZ q M b9 r λ r'=>K (v'::r') from h);obtain ⟨l',h3,h4⟩:=uR hs h2;refine ⟨v'::l',λ d => ?_,h4⟩;rw[List.map_cons,List.mapM_cons,h1 d,h3 d];rfl
theorem gS {own:AH} {q:Bool} {d:Nat} {k:Nat} : ∀ {rows:List (Option (Nat × List (List AV)))} {i:Nat},(∀ j z es,rows[j]? = some (some (z,es))->(own (σ k (i+j+1)).1).g8 (σ k (i+j+1)).2=some ⟨z,es⟩ /\ ∀ e∈es,FY e=true) ->
  (B5 σ k i rows).mapM (λ cs:List AV=>cs.mapM (snap own q (d+1)))=some (QC q rows)
 | [],i,h=>rfl
 | none::r,i,h=>by
  rw[B5,List.mapM_cons,gS (i:=i+1) λ j z es hj=>by
   have:=h (j+1) z es (by simpa using hj)
   rwa [show i+(j+1)+1=i+1+j+1 by omega]at this]
  rfl
 | some (z,es)::r,i,h=>by
  rw[B5,List.mapM_cons,gS (i:=i+1) λ j z es hj=>by
   have:=h (j+1) z es (by simpa using hj)
   rwa [show i+(j+1)+1=i+1+j+1 by omega]at this]
  obtain ⟨h1,h2⟩:=h 0 z es rfl;have:snap own q (d+1) (.row (σ k (i+1)).1 (σ k (i+1)).2 z 0 es.length)=some (.sl q es):=by
   simp only[snap,EM,AH.get];rw[show (own (σ k (i+1)).1).g8 (σ k (i+1)).2=some ⟨z,es⟩ from h1];simp only[Nat.zero_add,Nat.le_refl,and_self,if_true,List.drop_zero];rw[zT (Nat.le_refl _),sF h2];rfl
  rw[List.mapM_cons,this];rfl
theorem uQ (hs:GO σ st.own M) {q:Bool} {v:AV} {K:AV->Prop} (h:WC q M b9 v K) : ∃ v',snap (st.own.l9 b9) q 6 (BA σ v)=some v'/\K v'/\v ≠ .any/\BM σ v=BA σ v/\j5 (st.own.l9 b9) q (BA σ v)=some v':=by
 have vu:R9 q M b9 v K -> ∃ v',snap (st.own.l9 b9) q 6 (BA σ v)=some v'/\K v'/\v ≠ .any/\BM σ v=BA σ v/\j5 (st.own.l9 b9) q (BA σ v)=some v':=by
  intro h;obtain ⟨v',h1,h2,h3,h4⟩:=uT hs h;refine ⟨v',h1 5,h2,h3,h4,?_⟩;have:=h1 5
  cases v<;>first|exact this|exact (h:False).elim
 unfold WC at h;split at h
 ·rename_i key z off len
  split at h
  ·rename_i s z' es hm
   cases hz:Nat.beq z z'<;>simp only[hz,cond_true,cond_false]at h;cases hb:P7 s b9<;>simp only[hb,cond_true,cond_false]at h;cases ho:Nat.beq off 0<;>simp only[ho,cond_true,cond_false]at h;obtain rfl:=BQ.1 hz;obtain rfl:=BQ.1 ho;obtain ⟨rfl,h⟩:=h;obtain ⟨l',h1,h2⟩:=uR hs h;have cj:=hs.g8 _ _ _ (EE hm);rw[hs.site _ _ _ hm]at cj;have key:snap (st.own.l9 b9) q 6 (BA σ (.row key 0 z 0 es.length))=some (.sl q l'):=by
    simp only[BA,snap,EM,AH.get,hs.site _ _ _ hm];rw[TM hb,cj];simp only[BC.g8,Nat.zero_add,List.length_map,Nat.le_refl,and_self,if_true,List.drop_zero];rw[zT (by simp),h1 4];rfl
   exact ⟨_,key,h2,(by intro e;cases e),rfl,key⟩
  ·rename_i s rows hm
   split at h
   ·cases hz:Nat.beq z 1<;>simp only[hz,cond_true,cond_false]at h
    obtain rfl:=BQ.1 hz;obtain ⟨rfl,rfl,h1,h2⟩:=h;have cj:=hs.g8 _ _ _ (EE hm);have key:snap (st.own.l9 []) q 6 (BA σ (.row key 0 1 0 rows.length))=some (.sl q (QC q rows)):=by
     simp only[BA,snap,EM,AH.get,AH.l9];rw[cj];simp only[BC.g8,Nat.zero_add,FA,Nat.le_refl,and_self,if_true,List.drop_zero];rw[zT (by rw[FA];exact Nat.le_refl _),gS (i:=0) λ j z es hj=>⟨by
      have:=hs.g8 key (j+1) (.rw z es) (by simp [c5,hm,hj])
      simpa [BC.g8] using this,h1 z es (zM hj)⟩]
     rfl
    exact ⟨_,key,h2,(by intro e;cases e),rfl,key⟩
   ·exact h.elim
  ·exact vu h
 ·exact vu h
theorem uU (hs:GO σ st.own M) {q:Bool} : ∀ {l:List AV} {K:List AV->Prop},hH q M b9 l K -> ∃ l',(l.map (BA σ)).mapM (snap (st.own.l9 b9) q 6)=some l'/\K l'
 | [],K,h=>⟨[],rfl,h⟩
 | v::r,K,h=>by
  obtain ⟨v',h1,h2,_⟩:=uQ hs (show WC q M b9 v λ v'=>hH q M b9 r λ r'=>K (v'::r') from h);obtain ⟨l',h3,h4⟩:=uU hs h2;refine ⟨v'::l',?_,h4⟩;rw[List.map_cons,List.mapM_cons,h1,h3];rfl
theorem Z0 (hs:GO σ st.own M) {q:Bool} {v:AV} {K:AV->Prop} (h:PA q M b9 v K) : ∃ v',j5 (st.own.l9 b9) q (BJ σ v)=some v'/\K v'/\v ≠ .any/\BJ σ v=BM σ v:=by
 cases v with
 | agg cs =>
  simp only[PA]at h;obtain ⟨l',h1,h2⟩:=uU hs h;refine ⟨.agg l',?_,h2,(by intro e;cases e),rfl⟩;simp only[IV,j5,h1,Option.map_some]
 | g9 vs=>exact (h:False).elim
 | fn p f g cs=>exact (h:False).elim
 | any=>exact (h:False).elim
 | _ =>
  simp only[PA]at h;obtain ⟨v',h1,h2,h3,h4,h5⟩:=uQ hs h;exact ⟨v',h5,h2,h3,rfl⟩
theorem Z3 (hr:RX σ tm M st) : ∀ {xs:List AP} {K:List AV->Prop},WD tm M b9 xs K -> ∃ vs,(xs.map st.ev).mapM (j5 (st.own.l9 b9) true)=some vs/\K vs
 | [],K,h=>⟨[],rfl,h⟩
 | x::r,K,h=>by
  obtain ⟨v',h1,h2,h3,_⟩:=Z0 hr.sat (show PA true M b9 (ex tm x) λ v=>WD tm M b9 r λ vs=>K (v::vs) from h);obtain ⟨l',h4,h5⟩:=Z3 hr h2;refine ⟨v'::l',?_,h5⟩;rw[List.map_cons,List.mapM_cons,hr.ev rfl h3,h1,h4];rfl
theorem Ag5 (hs:GO σ st.own M) {v:AV} {K:AV->Prop} (h:Z2 M b9 v K) : ∃ v',bd (st.own.l9 b9) true (BJ σ v)=some v'/\K v'/\v ≠ .any/\BJ σ v=BM σ v:=by
 cases v with
 | nil=>exact ⟨.nil,rfl,h,(by intro e;cases e),rfl⟩
 | _ =>
  simp only[Z2]at h;obtain ⟨v',h1,h2,h3,h4⟩:=Z0 hs h;exact ⟨v',h1,h2,h3,h4⟩
theorem uV (hr:RX σ tm M st) : ∀ {xs:List AP} {K:List AV->Prop},hJ tm M b9 xs K -> ∃ vs,(xs.map st.ev).mapM (bd (st.own.l9 b9) true)=some vs/\K vs
 | [],K,h=>⟨[],rfl,h⟩
 | x::r,K,h=>by
  obtain ⟨v',h1,h2,h3,_⟩:=Ag5 hr.sat (show Z2 M b9 (ex tm x) λ v=>hJ tm M b9 r λ vs=>K (v::vs) from h);obtain ⟨l',h4,h5⟩:=uV hr h2;refine ⟨v'::l',?_,h5⟩;rw[List.map_cons,List.mapM_cons,hr.ev rfl h3,h1,h4];rfl
theorem S9 (hr:RX σ tm M st) : ∀ {xs:List AP} {K:List AV->Prop},RD tm xs K -> ∃ vs,xs.map st.ev=vs.map (BJ σ)/\K vs
 | [],K,h=>⟨[],rfl,h⟩
 | x::r,K,h=>by
  obtain ⟨h1,h2⟩:=YN (show fV (ex tm x) λ v=>RD tm r λ vs=>K (v::vs) from h);obtain ⟨vs,h3,h4⟩:=S9 hr h2;exact ⟨ex tm x::vs,by rw[List.map_cons,List.map_cons,hr.ev rfl h1,h3],h4⟩
theorem lF {v:AV} (h:A7 v):BA σ v=v:=by
 cases v<;>first|rfl|(simp only[A7]at h)
theorem lD : ∀ {l:List AV},CJ l->l.map (BA σ)=l
 | [],_=>rfl
 | v::r,h=>by
  simp only[CJ]at h;rw[List.map_cons,lF h.1,lD h.2]
theorem lG {v:AV} (h:A7 v):BM σ v=v:=by
 cases v with
 | agg cs=>simp only[A7]at h;simp only[BM,lD h]
 | fn p f g cs=>simp only[A7]at h
 | _=>exact lF (σ:=σ) h
theorem lE : ∀ {l:List AV},CJ l->l.map (BM σ)=l
 | [],_=>rfl
 | v::r,h=>by
  simp only[CJ]at h;rw[List.map_cons,lG h.1,lE h.2]
theorem bW {v:AV} (h:A7 v):BJ σ v=v:=by
 cases v with
 | g9 cs=>simp only[A7]at h;simp only[BJ,lE h]
 | _=>exact lG (σ:=σ) h
theorem tA {I:List AV->Option (AV × AH)} {vs:List AV} {r:AV} (h:IG I vs=some r):A7 r:=by
 unfold IG at h;split at h
 ·split at h
  ·split at h
   ·obtain rfl:=Option.some.inj h
    assumption
   ·cases h
  ·cases h
 ·cases h
theorem Ev.clean {f:Nat} {vs:List AV} {r:AV} (h:Ev L f vs r):A7 r:=by
 obtain ⟨n,h⟩:=h;unfold GZ KW at h;split at h
 ·split at h
  ·rename_i r1 r2 h1 h2
   split at h
   ·obtain rfl:=Option.some.inj h
    exact tA h1
   ·cases h
  ·cases h
 ·exact tA h
theorem RX.put (h:RX σ tm M st) (d:Nat) {v v':AV} (e:v'=BJ σ v):RX σ ((d,v)::tm) M ⟨kg st.tm d v',st.own⟩:=by
 refine ⟨λ j => ?_,h.sat⟩;simp only[tg,WN];cases hb:Nat.beq j d
 ·rw[if_neg (FD.1 hb)];exact h.tm j
 ·rw[if_pos (BQ.1 hb)];exact Or.inr e
theorem sJ : ∀ {cs:List AV},VW cs=true->cs.map (BJ σ)=cs.map (BA σ)
 | [],_=>rfl
 | v::r,h=>by
  simp only[VW]at h;cases hv:gE v<;>simp only[hv,cond_true,cond_false]at h
  ·cases h
  ·rw[List.map_cons,List.map_cons,sJ h]
   cases v<;>first|rfl|(simp [gE]at hv)
theorem Yo {v:AV} (h:GF v=true):BA σ v=v:=by cases v<;>first|rfl|(simp [GF]at h)
theorem mZ : ∀ {cs:List AV},cs.all GF=true->cs.map (BA σ)=cs
 | [],_=>rfl
 | c::r,h=>by
  simp only[List.all_cons,Bool.and_eq_true]at h;rw[List.map_cons,Yo h.1,mZ h.2]
theorem nA : ∀ {vs:List AV},vs.all dq=true->vs.map (BJ σ)=vs
 | [],_=>rfl
 | v::r,h=>by
  simp only[List.all_cons,Bool.and_eq_true]at h;rw[List.map_cons,nA h.2];congr 1;cases v with
  | agg cs=>simp only[BJ,BM,mZ (show cs.all GF=true from h.1)]
  | _=>first|rfl|(simp [dq,GF]at h)
theorem AeQ {r:AV} (hc:A7 r) (hf:JH r):BJ σ (Aa r)=Aa r:=by
 cases r with
 | agg cs =>
  simp only[Aa,BJ,BM];congr 1;rw[List.map_map];refine List.map_congr_left λ c oc => ?_
  have:=hf c oc
  cases c<;>first|rfl|exact this.elim
 | _=>first|rfl|exact hf.elim
theorem AeM {c:AV} (h:A7 c):BA σ (G4 c)=G4 c:=by
 cases c<;>first|(simp only[G4,BA];done)|(simp only[A7]at h;done)
theorem eL {r:AV} (h:A7 r) (hd:WX r):BM σ (IB r)=IB r:=by
 cases r with
 | agg cs =>
  simp only[A7]at h;have : ∀ cs:List AV,CJ cs->(LQ cs).map (BA σ)=LQ cs:=by
   intro cs;induction cs with
   | nil=>intro _;simp [LQ]
   | cons c l ih =>
    intro h;simp only[CJ]at h;rw[LQ,List.map_cons,ih h.2,AeM h.1]
  simp only[IB,BM,this cs h]
 | g9=>exact hd.elim
 | fn=>exact hd.elim
 | _=>first|(simp only[IB,G4,BM,BA];done)|(simp only[A7]at h;done)
theorem AeN {r:AV} (h:A7 r) (hd:QO r):BJ σ (KN r)=KN r:=by
 cases r with
 | g9 vs =>
  simp only[A7]at h;have : ∀ vs:List AV,CJ vs->(∀ v∈vs,WX v)->(vs.map IB).map (BM σ)=vs.map IB:=by
   intro vs;induction vs with
   | nil=>intro _ _;rfl
   | cons v l ih =>
    intro h hd;simp only[CJ]at h;rw[List.map_cons,List.map_cons,ih h.2 λ x hx=>hd x (List.mem_cons_of_mem _ hx),eL h.1 (hd v List.mem_cons_self)]
  simp only[KN,BJ,this vs h hd]
 | fn=>exact hd.elim
 | agg cs=>exact eL h trivial
 | _=>first|exact eL h trivial|(simp only[KN,IB,G4,BJ,BM,BA];done)|(simp only[A7]at h;done)
theorem AeO {r:AV} (h:A7 r) (hd:JH r\/QO r):BJ σ (LR r)=LR r:=by
 by_cases hf:JH r
 ·rw[eP hf];exact AeQ h hf
 ·rw[eN hf];exact AeN h (hd.resolve_left hf)
theorem qD : ∀ {l:List AV},YR l=true->l.map (BJ σ)=l
 | [],_=>rfl
 | .int _ _::r,h=>by
  rw[List.map_cons,qD (l:=r) h];rfl
theorem rY {s:Nat} : ∀ {M:Mem},TL s M=true -> ∀ k s' c,c8 M k=some (s',c)->s'≠s
 | [],_,_,_,_,e=>by cases e
 | (k0,s0,c0)::r,h,k,s',c,e=>by
  simp only[TL]at h;cases hb:Nat.beq s0 s<;>simp only[hb,cond_true,cond_false]at h
  ·simp only[c8]at e
   cases hk:Nat.beq k k0<;>simp only[hk,cond_true,cond_false]at e
   ·exact rY h k s' c e
   ·obtain ⟨rfl,_⟩:=Prod.mk.inj (Option.some.inj e)
    exact λ e2=>by rw[e2]at hb;simp at hb
  ·cases h
theorem GO.Bn {σ:E7} {own Hy:AH} {M:Mem} {s:Nat} (h:GO σ own M) (hl:EZ s=false) (hn:TL s M=true) (ho : ∀ q,q≠s->Hy q=own q):GO σ Hy M:=by
 have n9 : ∀ k t c,c5 M k t=some c->(σ k t).1≠s:=λ k t c e=>by
  cases hr:c.mf with
  | true =>
   intro e2;have:=h.low k t c e hr
   rw[e2,hl]at this;cases this
  | false =>
   obtain ⟨s',c0,g,g1,g2⟩:=GQ e;cases t with
   | zero=>rw[h.site k s' c0 g];exact rY hn k s' c0 g
   | succ i =>
    obtain ⟨rows,z,es,_,_,rfl⟩:=g2 i rfl;cases hr
 exact ⟨h.site,λ k t c e=>by rw[ho _ (n9 k t c e)];exact h.g8 k t c e,λ k t c e=>by rw[ho _ (n9 k t c e)];exact h.old k t c e,h.inj,h.low⟩
theorem Tk {K:AV->Mem->Prop} (hr:RX σ tm M st) {op:DP} (h:XE L tm M b9 K op):BT L tm b9 K op st\/(∃ f xs,op = .call f xs)\/(∃ f xs,op = .c9 f xs)\/(∃ x xs,op = .q8 x xs)\/(∃ f xs,op = .n7 f xs)\/(∃ s f xs,op = .z0 s f xs) \/ ∃ s f xs,op = .di s f xs:=by
 cases op with
 | call f xs=>exact Or.inr (Or.inl ⟨_,_,rfl⟩)
 | c9 f xs=>exact Or.inr (Or.inr (Or.inl ⟨_,_,rfl⟩))
 | q8 x xs=>exact Or.inr (Or.inr (Or.inr (Or.inl ⟨_,_,rfl⟩)))
 | n7 f xs=>exact Or.inr (Or.inr (Or.inr (Or.inr (Or.inl ⟨_,_,rfl⟩))))
 | z0 s f xs=>exact Or.inr (Or.inr (Or.inr (Or.inr (Or.inr (Or.inl ⟨_,_,_,rfl⟩)))))
 | di s f xs=>exact Or.inr (Or.inr (Or.inr (Or.inr (Or.inr (Or.inr ⟨_,_,_,rfl⟩)))))
 | ou s n x v=>exact Or.inl (Ua hr h)
 | ug ne x=>exact Or.inl (Tn hr h)
 | bad=>exact (show False from h).elim
 | nm x=>exact Or.inl (Tv hr h)
 | gd x=>exact Or.inl (Tf hr h)
 | oy s z b x y=>exact Or.inl (zY hr h)
 | iw tb x=>exact Or.inl (Tx hr h)
 | rj p f xs=>exact Or.inl (Ts hr h)
 | q6 x=>exact Or.inl (Tu hr h)
 | ak s z=>exact Or.inl (Uc hr h)
 | pick c a b=>exact Or.inl (Tw hr h)
 | bin o x y=>exact Or.inl (Tb hr h)
 | beq ne x y=>exact Or.inl (zZ hr h)
 | un o x=>exact Or.inl (Ub hr h)
 | conv k x=>exact Or.inl (Tg hr h)
 | box s x=>exact Or.inl (Tc hr h)
 | alloc s z=>exact Or.inl (zV hr h)
 | build z ps=>exact Or.inl (Te hr h)
 | c7 s z ps=>exact Or.inl (Td hr h)
 | bn x o=>exact Or.inl (Ti hr h)
 | qf x o n a=>exact Or.inl (Tj hr h)
 | aq a z x i=>exact Or.inl (Tl hr h)
 | ld a n x=>exact Or.inl (To hr h)
 | ya a n x=>exact Or.inl (Tp hr h)
 | st n x v=>exact Or.inl (kD hr h)
 | mk s z b ze l c=>exact Or.inl (Tr hr h)
 | jg z x lo hi=>exact Or.inl (Tz hr h)
 | ext x i=>exact Or.inl (Th hr h)
 | len x=>exact Or.inl (Tq hr h)
 | mm m xs=>exact Or.inl (Tt hr h)
 | app s z b x y=>exact Or.inl (zW hr h)
theorem aZ {K:AV->Mem->Prop} (hr:RX σ tm M st) {op:DP} {d:Option Nat} {g:Option (Nat × Bool)} {l:List AI} {k:List It} {Q:St->Prop} (h:XE L tm M b9 K op) (hg:EY st g=some true)
  (hk : ∀ σ' v v' M' n0,K v M'->v'=BJ σ' v->RX σ' tm M' ⟨st.tm,n0⟩->AO L l k ⟨((⟨st.tm,n0⟩:St).dst d v').tm,n0⟩ Q):AO L (⟨d,op,g,b9⟩::l) k st Q:=by
 rcases Tk hr h with ⟨E,σ',v,M',h1,h2,h3,h4⟩|⟨f,xs,rfl⟩|⟨f,xs,rfl⟩|⟨x,xs,rfl⟩|⟨f,xs,rfl⟩|⟨s,f,xs,rfl⟩|⟨s,f,xs,rfl⟩
 ·rw[xU hg h1,SS]
  have:=hk σ' v _ M' _ h2 h3 h4
  cases d<;>exact this
 ·simp only[XE]at h
  obtain ⟨vs,h1,r,h2,h3⟩:=Z3 hr h;rw[xK hg h1 h2];have:=hk σ r r M st.own h3 (bW h2.clean).symm hr
  cases d<;>exact this
 ·simp only[XE]at h
  split at h
  ·rename_i s
   obtain ⟨vs,h1,hF,⟨hl,hn⟩,h2⟩:=S9 hr h;have kx:GO σ (st.own.put s ⟨0,λ_=>none⟩) M:=hr.sat.Bn hl hn λ q hq=>by simp [AH.put,hq]
   obtain ⟨r,n0,σ',M',⟨n,h3⟩,h4,h5,uc,h6⟩:=h2 σ _ kx;rw[<-h1]at h3;refine xJ hg (r:=BJ σ' r) (o':=n0.put s ⟨0,λ_=>none⟩) (by simp [AH.put]) ⟨n,λ o ho => ?_⟩ ?_
   ·rw[hF n _ _ o _ _ (λ t=>by simp [AH.get,AH.put]) (λ q hq=>by rw[ho q hq];simp [AH.put,hq]) h3]
    congr 2;funext q
    simp only[AH.put];split<;>rfl
   ·have:=hk σ' r _ M' ((n0.put s ⟨0,λ_=>none⟩).put s (st.own s)) h6 rfl ⟨λ j=>by rw[h5 j];exact hr.tm j,h4.Bn hl uc λ q hq=>by simp [AH.put,hq]⟩
    cases d<;>exact this
  ·rename_i hb
   obtain ⟨vs,h1,h2⟩:=S9 hr h;obtain ⟨r,n0,σ',M',h3,h4,h5,h6⟩:=h2 σ st.own hr.sat;rw[<-h1]at h3;rw[xM (λ s e=>hb s e) hg h3];have:=hk σ' r _ M' n0 h6 rfl ⟨λ j=>by rw[h5 j];exact hr.tm j,h4⟩
   cases d<;>exact this
 ·simp only[XE]at h
  split at h
  ·rename_i f g' e1
   obtain ⟨h0,h⟩:=h;obtain ⟨vs,h1,r,h2,h3⟩:=Z3 hr h;have e2:=hr.ev e1 (by intro e;cases e);rw[ZW,List.map_nil,h0]at e2;rw[xN hg e2 h1 h2];have:=hk σ r r M st.own h3 (bW h2.clean).symm hr
   cases d<;>exact this
  ·rename_i f g' c cs e1
   obtain ⟨h0,h⟩:=h;obtain ⟨v',h1,h,_,_⟩:=Z0 hr.sat h;obtain ⟨vs,h2,r,h3,h4⟩:=Z3 hr h;have e2:=hr.ev e1 (by intro e;cases e);rw[ZW,h0]at e2;have h5:(AV.agg (c::cs |>.map (BA σ))::xs.map st.ev).mapM (j5 st.own true)=some (v'::vs):=by
    rw[List.mapM_cons,show j5 st.own true (AV.agg (c::cs |>.map (BA σ)))=some v' from h1,show (xs.map st.ev).mapM (j5 st.own true)=some vs from h2];rfl
   rw[xL hg e2 h5 h3];have:=hk σ r r M st.own h4 (bW h3.clean).symm hr
   cases d<;>exact this
  ·rename_i f g' cs e1
   cases ho:VW cs<;>simp only[ho,cond_true,cond_false]at h;obtain ⟨h0,h⟩:=h;obtain ⟨vs,h1,h2⟩:=S9 hr h;rw[G0]at h2;obtain ⟨r,n0,σ',M',h3,h4,h5,h6⟩:=h2 σ st.own hr.sat;rw[List.map_append,<-h1,sJ (σ:=σ) ho]at h3;have e2:=hr.ev e1 (by intro e;cases e);rw[ZW,h0]at e2;rw[xQ hg e2 h3];have:=hk σ' r _ M' n0 h6 rfl ⟨λ j=>by rw[h5 j];exact hr.tm j,h4⟩
   cases d<;>exact this
  ·exact h.elim
 ·simp only[XE]at h
  obtain ⟨vs,h1,h2⟩:=S9 hr h;cases ho:vs.all dq<;>simp only[ho,cond_true,cond_false]at h2;obtain ⟨r,h3,h4,h5⟩:=h2;have e1:xs.map st.ev=vs:=by rw[h1];exact nA ho
  rw[xO hg (by rw[e1];exact ho) (by rw[e1];exact h3) h4];have:=hk σ (LR r) (LR r) M st.own h5 (AeO h3.clean h4).symm hr
  cases d<;>exact this
 ·simp only[XE]at h
  cases Gk:EZ s<;>simp only[Gk,cond_true,cond_false]at h;obtain ⟨vs,h1,z,es,n,h2,rfl,h3⟩:=uV hr h;obtain ⟨k',g1,g2,g3⟩:=HW h3;refine xP hg h1 h2 ?_;rw[SS];have:=hk (C5 σ k' λ_=>(s,st.own.j6 s)) _ (.row s (st.own.j6 s) z 0 es.length) _ _ g3 (by simp only[DS,BS]) (hr.jf (q:=s) g1 g2 (.rw z es) trivial rfl (λ_=>Gk))
  cases d<;>exact this
 ·simp only[XE]at h
  obtain ⟨vs,h1,h2⟩:=S9 hr h;split at h2
  ·rename_i key rest
   cases hi:YR rest<;>simp only[hi,cond_true,cond_false]at h2;obtain ⟨cells,ig,kd,n,g1,g2,g3,g4,g5⟩:=h2;have gu:=hr.sat.site _ _ _ g1;have cj:=hr.sat.g8 _ _ _ (EE g1);rw[gu]at cj;simp only[BC.g8,H4 g2]at cj;have bz:xs.map st.ev = .ptr s (σ key 0).2 0 0::rest:=by
    rw[h1,List.map_cons,EG,gu,qD hi]
   have hE:=g4 (σ key 0).2 (st.own s) cj;refine xR hg (by rw[bz];exact hE) ?_;rw[SS];have:=hk σ (.int kd n) (.int kd n) _ _ g5 rfl (hr.Og g1 trivial (.bx ig) trivial (λ h=>by cases h))
   simp only[BC.g8,H4 g3]at this;cases d<;>exact this
  ·exact h2.elim
theorem Zt (hr:RX σ tm M st) {g:Nat} {w:Bool} {b:Bool} (e:tg tm g = .bool b):EY st (some (g,w))=some (b == w):=by
 rcases hr.tm g with h|h
 ·rw[e]at h;cases h
 ·rw[e]at h
  simp only[EY,h,G5]
theorem Zu (hr:RX σ tm M st) {g:Nat} {w:Bool} (e:tg tm g = .g9 []):EY st (some (g,w))=some false:=by
 rcases hr.tm g with h|h
 ·rw[e]at h;cases h
 ·rw[e]at h
  simp only[EY,h,IX,List.map_nil]
theorem iK {key:Nat} : ∀ (tm:Tm) (j:Nat),tg (Ek key tm) j = .any\/tg (Ek key tm) j=tg tm j
 | [],_=>Or.inl rfl
 | (i,v)::r,j=>by
  simp only[Ek];cases hc:PL key v<;>cases hb:Nat.beq j i;all_goals simp only[cond_true,cond_false,tg,hb]
  ·exact iK r j
  ·exact Or.inr trivial
  ·exact iK r j
  ·exact Or.inl trivial
theorem AhK {v:AV} {K:Tm->Prop} (h:xk v tm K) : ∃ cz,(∀ j,tg cz j = .any\/tg cz j=tg tm j)/\K cz:=by
 unfold xk at h;split at h
 ·rw[TB]at h
  exact ⟨_,λ j=>iK _ j,h⟩
 ·exact ⟨_,λ j=>Or.inr rfl,h⟩
theorem kE {k:List It} {Q:Tm->Mem->Prop} : ∀ {l:List AI} {K:Tm->Mem->Prop} {tm:Tm} {M:Mem},XO L l K tm M->(∀ cz M',K cz M'->AA L k cz M' Q)->jA L l k tm M Q
 | [],K,tm,M,h,hk=>λ σ st hr=>xS.2 (hk tm M h σ st hr)
 | o::l,K,tm,M,h,hk=>by
  intro σ st hr;have h:XI L o (XO L l) K tm M:=h;have ih : ∀ cz M',XO L l K cz M'->jA L l k cz M' Q:=λ cz M' h'=>kE h' hk
  have some_ : ∀ (d:Nat) (op:DP) (g:Option (Nat × Bool)) (b9:List Nat),EY st g=some true->XE L tm M b9 (λ v M=>XO L l K ((d,v)::tm) M) op->AO L (⟨some d,op,g,b9⟩::l) k st (SQ Q):=by
   intro d op g b9 hg hx;refine aZ hr hx hg ?_;intro σ' v v' M' n0 h1 h2 h3;exact ih _ _ h1 σ' _ (h3.put d h2)
  have Dm : ∀ (d:Nat) (u:AV) (op:DP) (b9:List Nat),XE L tm M b9 (λ v M=>xk u tm λ tm=>XO L l K ((d,v)::tm) M) op->AO L (⟨some d,op,none,b9⟩::l) k st (SQ Q):=by
   intro d u op b9 hx;refine aZ hr hx rfl ?_;intro σ' v v' M' n0 h1 h2 h3;obtain ⟨cz,g1,g2⟩:=AhK h1;exact ih _ _ g2 σ' _ ((show RX σ' cz M' ⟨st.tm,n0⟩ from ⟨λ j=>(g1 j).elim Or.inl λ e=>by rw[e];exact h3.tm j,h3.sat⟩).put d h2)
  have none_ : ∀ (op:DP) (g:Option (Nat × Bool)) (b9:List Nat),EY st g=some true->XE L tm M b9 (λ_ M=>XO L l K tm M) op->AO L (⟨none,op,g,b9⟩::l) k st (SQ Q):=by
   intro op g b9 hg hx;refine aZ hr hx hg ?_;intro σ' v v' M' n0 h1 h2 h3;exact ih _ _ h1 σ' _ h3
  have Bm : ∀ (d:Option Nat) (op:DP) (g:Option (Nat × Bool)) (b9:List Nat),EY st g=some false->(match d with|some d=>XO L l K ((d,.g9 [])::tm) M|none=>XO L l K tm M)->AO L (⟨d,op,g,b9⟩::l) k st (SQ Q):=by
   intro d op g b9 hg hx;rw[xT hg];cases d with
   | none=>exact ih _ _ hx σ _ hr
   | some d=>exact ih _ _ hx σ _ (hr.put d rfl)
  obtain ⟨d,op,g,b9⟩:=o;cases g with
  | none =>
   cases d with
   | none=>exact none_ op none b9 rfl h
   | some d =>
    cases op with
    | app s z b x y=>exact Dm d (ex tm x) (.app s z b x y) b9 h
    | _=>exact some_ d _ none b9 rfl h
  | some gw =>
   obtain ⟨g,w⟩:=gw;have h:(match tg tm g with
    | .bool b=>fB (b == w) λ c=>match c,d with
     | true,some d=>XE L tm M b9 (λ v M=>XO L l K ((d,v)::tm) M) op
     | true,none=>XE L tm M b9 (λ_ M=>XO L l K tm M) op
     | false,some d=>XO L l K ((d,.g9 [])::tm) M
     | false,none=>XO L l K tm M
    | .g9 []=>match d with
     | some d=>XO L l K ((d,.g9 [])::tm) M
     | none=>XO L l K tm M
    | _=>False):=by cases d<;>cases op<;>exact h
   split at h
   ·rename_i b e
    rw[PU]at h;have hg:=Zt hr (w:=w) e;cases hb:(b == w)<;>rw[hb]at h hg
    ·exact Bm d op _ b9 hg (by cases d<;>exact h)
    ·cases d with
     | none=>exact none_ op _ b9 hg h
     | some d=>exact some_ d op _ b9 hg h
   ·rename_i e
    exact Bm d op _ b9 (Zu hr e) (by cases d<;>exact h)
   ·exact h.elim
theorem bA {Q:Tm->Mem->Prop} : ∀ {n:Nat} {k:List It} {tm:Tm} {M:Mem},XK L Q n k tm M->AA L k tm M Q
 | 0,k,tm,M,h=>h
 | n+1,[],tm,M,h=>λ σ st hr=>xC.2 ⟨σ,tm,M,hr,h⟩
 | n+1,it::k,tm,M,h=>by
  have h:XS L Q (XK L Q n) (it::k) tm M:=h;have ih : ∀ k tm M,XK L Q n k tm M->AA L k tm M Q:=λ k tm M h=>bA h
  intro σ st hr;cases it with
  | g8 id=>exact wU.2 (ih _ _ _ h σ st hr)
  | ki ts ss =>
   simp only[XS,Zk,TB]at h;cases ss with
   | cons s r=>exact h.elim
   | nil =>
    refine wY.2 (ih _ _ _ h σ _ ⟨λ j => ?_,hr.sat⟩);rw[WK,TZ,kM,bF,Bool.false_or];cases hc:ts.contains j
    ·simp only[Bool.false_eq_true,if_false,cond_false]
     exact hr.tm j
    ·exact Or.inl rfl
  | lp c=>exact h σ st hr
  | code c =>
   cases c with
   | skip=>exact xI.2 (ih _ _ _ h σ st hr)
   | ops l d=>exact xD.2 (kE h (λ cz M' h'=>ih _ _ _ h') σ st hr)
   | dr c ts ss=>exact wX.2 (ih _ _ _ h σ st hr)
   | scope c=>exact xG.2 (ih _ _ _ h σ st hr)
   | seq a b=>exact xH.2 (ih _ _ _ h σ st hr)
   | cond x a b =>
    simp only[XS]at h;split at h
    ·rename_i b' e
     rw[PU]at h;rw[wW (hr.ev e (by intro e;cases e))];cases b'
     ·simpa using ih _ _ _ h σ st hr
     ·simpa using ih _ _ _ h σ st hr
    ·exact h.elim
   | block id c=>exact wV.2 (ih _ _ _ h σ st hr)
   | loop c=>exact xA.2 (iZ.1 (h σ st hr))
   | exit id =>
    simp only[XS]at h;split at h
    ·rename_i k' e
     exact (wZ e).2 (ih _ _ _ h σ st hr)
    ·exact h.elim
   | ret=>exact xF.2 ⟨σ,tm,M,hr,h⟩
theorem AfV (hr:RX σ tm M st) {r:I0} {K:AV->Prop} (h:V6 tm M r K) : ∃ v,EU st r=some (BJ σ v)/\K v/\BJ σ v=BM σ v:=by
 cases r with
 | tmp t =>
  simp only[V6]at h;obtain ⟨h1,h2,h3⟩:=pB (σ:=σ) h;refine ⟨_,?_,h3,h2⟩;rcases hr.tm t with e|e
  ·exact absurd e h1
  ·simp only[EU,e]
   cases hv:tg tm t<;>rw[hv]at h h1<;>first|rfl|exact (h:False).elim
 | cell t agg n =>
  simp only[V6]at h;split at h
  ·rename_i key i j e
   split at h
   ·rename_i s cs hm
    cases hi:Nat.beq i 0<;>simp only[hi,cond_true,cond_false]at h;obtain rfl:=BQ.1 hi;split at h
    ·rename_i ds hp
     rw[G0]at h;rcases hr.tm t with e'|e'
     ·rw[e]at e';cases e'
     ·have hs:=hr.sat.site _ _ _ hm
      have cj:=hr.sat.g8 _ _ _ (EE hm);rw[hs]at cj;have flat : ∀ v,JV agg (ds.map (BA σ))=some (BJ σ v)->EU st (.cell t agg n)=some (BJ σ v):=by
       intro v hv;simp only[EU,e',e,EG,AH.kb,AH.get,hs,cj,BC.g8,List.getElem?_cons_zero,ZI hp,hv]
      cases agg
      ·simp only[rm]at h
       split at h
       ·rename_i c
        obtain ⟨_,h1,h2⟩:=pC (σ:=σ) h;refine ⟨c,flat c (by rw[h1];rfl),h2,?_⟩;rw[h1];cases c<;>first|rfl|exact (h:False).elim
       ·exact h.elim
      ·exact ⟨.agg ds,flat _ rfl,h,rfl⟩
    ·exact h.elim
   ·exact h.elim
  ·exact h.elim
theorem gO (hr:RX σ tm M st) : ∀ {l:List I0} {K:List AV->Prop},ZO tm M l K -> ∃ vs,l.mapM (EU st)=some (vs.map (BJ σ))/\K vs/\vs.map (BJ σ)=vs.map (BM σ)
 | [],K,h=>⟨[],rfl,h,rfl⟩
 | r::l,K,h=>by
  obtain ⟨v,h1,h2,h3⟩:=AfV hr (show V6 tm M r λ v=>ZO tm M l λ vs=>K (v::vs) from h);obtain ⟨vs,h4,h5,h6⟩:=gO hr h2;exact ⟨v::vs,by rw[List.mapM_cons,h1,h4];rfl,h5,by rw[List.map_cons,List.map_cons,h3,h6]⟩
theorem uP (hs:GO σ st.own M) {q:Bool} : ∀ {l:List AV} {K:List AV->Prop},gY q M l K -> ∃ l',(l.map (BJ σ)).mapM (j5 st.own q)=some l'/\K l' /\ ∀ v∈l,BJ σ v=BM σ v
 | [],K,h=>⟨[],rfl,h,λ v hv=>by cases hv⟩
 | v::r,K,h=>by
  obtain ⟨v',h1,h2,_,h0⟩:=Z0 hs (show PA q M [] v λ v'=>gY q M r λ r'=>K (v'::r') from h);obtain ⟨l',h3,h4,h5⟩:=uP hs h2;refine ⟨v'::l',?_,h4,λ u hu => ?_⟩
  ·rw[List.map_cons,List.mapM_cons,show j5 st.own q (BJ σ v)=some v' from h1,h3];rfl
  ·rcases List.mem_cons.1 hu with rfl|hu
   ·exact h0
   ·exact h5 u hu
theorem Ag8 {own:AH} {q:Bool} {v v':AV} (h:j5 own q v=some v'):QD own q v=some v':=by
 cases v with
 | g9 vs=>simp [j5,snap]at h
 | _=>exact h
theorem AeU {f:AV->Option AV} {x y:AV} {r l':List AV} (h:(x::y::r).mapM f=some l') : ∃ a b c,l'=a::b::c:=by
 rw[List.mapM_cons,List.mapM_cons]at h;cases hx:f x with
 | none=>rw[hx]at h;cases h
 | some a =>
  cases hy:f y with
  | none=>rw[hx,hy]at h;cases h
  | some b =>
   cases hr:r.mapM f with
   | none=>rw[hx,hy,hr]at h;cases h
   | some c =>
    rw[hx,hy,hr]at h;exact ⟨a,b,c,(Option.some.inj h).symm⟩
theorem jZ {fn:AFn} {r:AV} (hr:RX σ tm M st) (h:PI fn r tm M):UG fn r st:=by
 unfold PI at h;obtain ⟨vs,h1,h2,h3⟩:=gO hr h;obtain ⟨l',h4,h5,h6⟩:=uP hr.sat h2;unfold UG;rw[h1,Option.map_some,Option.bind_some];match vs,l',h4,h5 with
 | [],l',h4,h5 =>
  obtain rfl:=Option.some.inj h4;obtain ⟨e,hc⟩:=h5;exact ⟨by rw[<-e];rfl,hc⟩
 | [v],l',h4,h5 =>
  rw[List.map_cons,List.map_nil,List.mapM_cons]at h4;cases hv:j5 st.own false (BJ σ v) with
  | none=>rw[hv]at h4;cases h4
  | some v' =>
   rw[hv]at h4;obtain rfl:=Option.some.inj h4;obtain ⟨e,hc⟩:=h5;exact ⟨by rw[<-e];exact Ag8 hv,hc⟩
 | v::u::w,l',h4,h5 =>
  obtain ⟨a,b,c,rfl⟩:=AeU (show List.mapM (j5 st.own false) (BJ σ v::BJ σ u::w.map (BJ σ))=some l' from h4);obtain ⟨e,hc⟩:=h5;refine ⟨?_,hc⟩;rw[<-e];have h4:List.mapM (j5 st.own false) (BJ σ v::BJ σ u::w.map (BJ σ))=some (a::b::c):=h4;show Option.map AV.g9 (List.mapM (j5 st.own false) (BJ σ v::BJ σ u::w.map (BJ σ)))=_;rw[h4];rfl
def PN:AV->Bool
 | .agg cs=>D9 cs
 | v=>vu v
def LC:List AV->Bool
 | []=>true
 | v::r=>bif PN v then LC r else false
theorem X5 {v:AV} (h:PN v=true):BJ σ v=v:=by
 cases v with
 | agg cs=>simp only[PN]at h;simp only[BJ,BM,H4 h]
 | _=>first|rfl|cases h
theorem X4 {σ:E7} : ∀ {vs:List AV} {i:Nat},LC vs=true -> ∀ j,j4 (CY i vs) j=BJ σ (j4 (CY i vs) j)
 | [],_,_,_=>rfl
 | v::r,i,h,j=>by
  simp only[LC]at h;cases hv:PN v<;>simp only[hv,cond_true,cond_false]at h
  ·cases h
  ·simp only[Aea,WM]
   split
   ·exact (X5 hv).symm
   ·exact X4 h j
theorem FV.x {f:Nat} {fn:AFn} {vs:List AV} {r:AV} (hL:L f=some fn) (hp:Nat.beq vs.length fn.de=true) (hd:LC vs=true) (h:AA L [.code fn.body] (CY 0 vs) [] (PI fn r)):FV L f vs r:=by
 refine FV.fwd hL (BQ.1 hp) (xB (h (λ_ _=>(0,0)) ⟨CY 0 vs,AH.emp⟩ ⟨λ j=>Or.inr ?_,?_⟩) ?_)
 ·rw[K3];exact X4 hd j
 ·exact ⟨(λ_ _ _ e=>by cases e),(λ_ _ _ e=>by simp [c5,c8]at e),(λ_ _ _ e=>by simp [c5,c8]at e),(λ_ _ _ _ _ _ e=>by simp [c5,c8]at e),(λ_ _ _ e=>by simp [c5,c8]at e)⟩
 ·rintro s ⟨σ,tm,M,hr,hq⟩
  exact jZ hr hq
theorem Ev.x {f:Nat} {fn:AFn} {vs:List AV} {r:AV} (hL:L f=some fn) (hp:Nat.beq vs.length fn.de=true) (hd:LC vs=true) (h:AA L [.code fn.body] (CY 0 vs) [] (PI fn r)) (hs:fn.ry=false:=by rfl):Ev L f vs r:=(FV.x hL hp hd h).ev hL hs
def F2:List (Nat × Nat)->Nat->Nat
 | [],k=>k
 | (a,b)::r,k=>bif Nat.beq k a then b else F2 r k
def ZQ (τ:List (Nat × Nat)):AV->AV
 | .row k t z o n => .row (F2 τ k) t z o n
 | .ptr k t i j => .ptr (F2 τ k) t i j
 | v=>v
def QB (τ:List (Nat × Nat)):List AV->List AV
 | []=>[]
 | v::r=>ZQ τ v::QB τ r
def TU (τ:List (Nat × Nat)):AV->AV
 | .agg cs => .agg (QB τ cs)
 | .fn p f g cs => .fn p f g (QB τ cs)
 | v=>ZQ τ v
def ZS (τ:List (Nat × Nat)):List AV->List AV
 | []=>[]
 | v::r=>TU τ v::ZS τ r
def ZR (τ:List (Nat × Nat)):AV->AV
 | .g9 cs => .g9 (ZS τ cs)
 | v=>TU τ v
def ZT (τ:List (Nat × Nat)):List (List AV)->List (List AV)
 | []=>[]
 | v::r=>QB τ v::ZT τ r
def J5 (τ:List (Nat × Nat)):BC->BC
 | .bx cs => .bx (QB τ cs)
 | .rw z es => .rw z es
 | .bs z es => .bs z (ZT τ es)
 | .mx rows => .mx rows
 | .hx i v rows => .hx i v rows
 | .vw w rows => .vw w rows
variable {τ:List (Nat × Nat)}
theorem V7 : ∀ l:List AV,QB τ l=l.map (ZQ τ)
 | []=>rfl
 | v::r=>by rw[QB,V7 r];rfl
theorem tM : ∀ l:List AV,ZS τ l=l.map (TU τ)
 | []=>rfl
 | v::r=>by rw[ZS,tM r];rfl
theorem Z5 (v:AV):BA (λ k t=>σ (F2 τ k) t) v=BA σ (ZQ τ v):=by cases v<;>rfl
theorem iF (v:AV):BM (λ k t=>σ (F2 τ k) t) v=BM σ (TU τ v):=by
 cases v with
 | agg cs=>simp only[BM,TU,V7,List.map_map];exact congrArg AV.agg (List.map_congr_left λ v _=>Z5 v)
 | fn p f g cs=>simp only[BM,TU,V7,List.map_map];exact congrArg (AV.fn p f g) (List.map_congr_left λ v _=>Z5 v)
 | _=>rfl
theorem Ahg (v:AV):BJ (λ k t=>σ (F2 τ k) t) v=BJ σ (ZR τ v):=by
 cases v with
 | g9 cs=>simp only[BJ,ZR,tM,List.map_map];exact congrArg AV.g9 (List.map_congr_left λ v _=>iF v)
 | agg cs=>exact iF (.agg cs)
 | fn p f g cs=>exact iF (.fn p f g cs)
 | _=>rfl
theorem tN : ∀ l:List (List AV),ZT τ l=l.map (QB τ)
 | []=>rfl
 | v::r=>by rw[ZT,tN r];rfl
theorem VR {k:Nat} : ∀ (rows:List (Option (Nat × List (List AV)))) (i:Nat),B5 (λ k t=>σ (F2 τ k) t) k i rows=B5 σ (F2 τ k) i rows
 | [],i=>rfl
 | none::r,i=>by rw[B5,B5,VR r]
 | some (z,es)::r,i=>by rw[B5,B5,VR r]
theorem Ss (c:BC) (k:Nat):c.g8 (λ k t=>σ (F2 τ k) t) k=(J5 τ c).g8 σ (F2 τ k):=by
 cases c with
 | bx cs =>
  simp only[BC.g8,J5,V7,List.length_map,List.map_map];rw[List.map_congr_left λ v _=>Z5 v];rfl
 | rw z es=>rfl
 | bs z es =>
  simp only[BC.g8,J5,tN,List.map_map];congr 1;refine List.map_congr_left λ cs _ => ?_
  simp only[Function.comp,V7,List.map_map];exact List.map_congr_left λ v _=>Z5 v
 | mx rows=>simp only[BC.g8,J5,VR]
 | hx i v rows=>simp only[BC.g8,J5,VR]
 | vw w rows=>simp only[BC.g8,J5,VR]
def yb (k s:Nat) (c:BC):Mem->Mem
 | []=>[(k,s,c)]
 | (j,s',c')::r=>bif Nat.beq k j then (k,s,c)::r else (j,s',c')::yb k s c r
def uj:Mem->Mem
 | []=>[]
 | (k,s,c)::r=>yb k s c (uj r)
def TH:Mem->(Mem->Prop)->Prop
 | [],K=>K []
 | (k,s,c)::r,K=>TH r λ r'=>fM (yb k s c r') K
theorem YW : ∀ (M:Mem) (K:Mem->Prop),TH M K=K (uj M)
 | [],_=>rfl
 | (k,s,c)::r,K=>by rw[TH,YW r,OW];rfl
theorem rK (k s:Nat) (c:BC) (j:Nat) : ∀ M:Mem,c8 (yb k s c M) j=bif Nat.beq j k then some (s,c) else c8 M j
 | []=>rfl
 | (i,s',c')::r=>by
  simp only[yb];cases hk:Nat.beq k i
  ·simp only[cond_false,c8,rK k s c j r]
   cases hj:Nat.beq j i<;>cases hjk:Nat.beq j k<;>simp only[cond_true,cond_false];exact absurd ((BQ.1 hjk).symm.trans (BQ.1 hj)) (FD.1 hk)
  ·obtain rfl:=BQ.1 hk
   simp only[cond_true,c8];cases Nat.beq j k<;>rfl
theorem TI (j:Nat) : ∀ M:Mem,c8 (uj M) j=c8 M j
 | []=>rfl
 | (k,s,c)::r=>by simp only[uj,rK,TI j r,c8]
theorem YZ (k t:Nat):c5 (uj M) k t=c5 M k t:=by simp only[c5,TI]
def Ab (τ:List (Nat × Nat)) (M:Mem):List (Nat × Nat × BC)->List (Option (Nat × BC))
 | []=>[]
 | (k,_,_)::r=>c8 M (F2 τ k)::Ab τ M r
def Ac (τ:List (Nat × Nat)):List (Nat × Nat × BC)->List (Option (Nat × BC))
 | []=>[]
 | (_,s,c)::r=>some (s,J5 τ c)::Ac τ r
def Jn (tm:Tm):Tm->List AV
 | []=>[]
 | (j,_)::r=>tg tm j::Jn tm r
def Jo (τ:List (Nat × Nat)):Tm->List AV
 | []=>[]
 | (_,v)::r=>ZR τ v::Jo τ r
def Y6:List Nat->Bool
 | []=>true
 | k::r=>bif JT k r then false else Y6 r
def keys (τ:List (Nat × Nat)):Mem->List Nat
 | []=>[]
 | (k,_,_)::r=>F2 τ k::keys τ r
theorem rJ : ∀ {M':Mem} {M:Mem},Ab τ M M'=Ac τ M' -> ∀ k s c,c8 M' k=some (s,c)->c8 M (F2 τ k)=some (s,J5 τ c)
 | [],_,_,_,_,_,e=>by cases e
 | (i,s',c')::r,M,h,k,s,c,e=>by
  simp only[Ab,Ac,List.cons.injEq]at h;simp only[c8]at e;cases hb:Nat.beq k i<;>simp only[hb,cond_true,cond_false]at e
  ·exact rJ h.2 k s c e
  ·simp only[Option.some.injEq,Prod.mk.injEq]at e
   obtain ⟨rfl,rfl⟩:=e;rw[BQ.1 hb];exact h.1
theorem fA : ∀ {M:Mem} {k s:Nat} {c:BC},c8 M k=some (s,c)->JT (F2 τ k) (keys τ M)=true
 | (i,s',c')::r,k,s,c,e=>by
  simp only[c8]at e;simp only[keys,JT];cases hb:Nat.beq k i<;>simp only[hb,cond_true,cond_false]at e
  ·rw[fA e];cases Nat.beq (F2 τ k) (F2 τ i)<;>rfl
  ·rw[BQ.1 hb];simp
theorem sA : ∀ {M:Mem},Y6 (keys τ M)=true -> ∀ {k k' s s':Nat} {c c':BC},c8 M k=some (s,c)->c8 M k'=some (s',c')->F2 τ k=F2 τ k'->k=k'
 | [],_,_,_,_,_,_,_,e,_,_=>by cases e
 | (i,s0,c0)::r,h,k,k',s,s',c,c',e,e',hk=>by
  simp only[keys,Y6]at h;cases hm:JT (F2 τ i) (keys τ r)<;>simp only[hm,cond_true,cond_false]at h
  ·simp only[c8]at e e'
   cases hb:Nat.beq k i<;>cases n6:Nat.beq k' i<;>simp only[hb,n6,cond_true,cond_false]at e e'
   ·exact sA h e e' hk
   ·obtain rfl:=BQ.1 n6
    have:=fA (τ:=τ) e
    rw[hk,hm]at this;cases this
   ·obtain rfl:=BQ.1 hb
    have:=fA (τ:=τ) e'
    rw[<-hk,hm]at this;cases this
   ·exact (BQ.1 hb).trans (BQ.1 n6).symm
  ·cases h
theorem vV : ∀ {cz:Tm} {tm:Tm},Jn tm cz=Jo τ cz -> ∀ j,tg cz j = .any\/tg tm j=ZR τ (tg cz j)
 | [],_,_,_=>Or.inl rfl
 | (i,v)::r,tm,h,j=>by
  simp only[Jn,Jo,List.cons.injEq]at h;simp only[tg];cases hb:Nat.beq j i<;>simp only[cond_true,cond_false]
  ·exact vV h.2 j
  ·rw[BQ.1 hb];exact Or.inr h.1
def x8 (ts:List Nat) (tm:Tm):Tm:=match ts with
 | []=>tm
 | t::ts=>ye (mask 0 (t::ts)) tm
def JG (τ:List (Nat × Nat)) (tm:Tm) (M:Mem) (cz:Tm) (M':Mem):Prop :=
 fT (ye 0 cz) λ l=>TH M' λ m=>Jn tm l=Jo τ l/\Ab τ M m=Ac τ m/\Y6 (keys τ m)=true
theorem BL {k:List It} {cz:Tm} {M':Mem} {Q:Tm->Mem->Prop} (τ:List (Nat × Nat)) (he:JG τ tm M cz M') (h:AA L k cz M' Q):AA L k tm M Q:=by
 unfold JG at he;rw[TB,YW]at he;obtain ⟨ht,hm,hn⟩:=he;intro σ st hr;have hg : ∀ k s c,c8 M' k=some (s,c)->c8 M (F2 τ k)=some (s,J5 τ c):=λ k s c e=>rJ hm k s c (by rw[TI];exact e)
 have Gf : ∀ k t c,c5 M' k t=some c->c5 M (F2 τ k) t=some (J5 τ c):=by
  intro k t c e;obtain ⟨s,c0,g1,g2,g3⟩:=GQ e;have:=hg k s c0 g1
  cases t with
  | zero=>rw[g2 rfl];exact EE this
  | succ i =>
   obtain ⟨rows,z,es,(rfl|⟨a,v,rfl⟩)|⟨w,rfl⟩,hr,rfl⟩:=g3 i rfl
   ·simp [c5,this,J5,hr]
   ·simp [c5,this,J5,hr]
   ·simp [c5,this,J5,hr]
 refine h (λ k t=>σ (F2 τ k) t) st ⟨λ j => ?_,⟨?_,?_,?_,?_,?_⟩⟩
 ·have:=vV ht j
  rw[WK,bF,cond_false]at this;rcases this with e|e
  ·exact Or.inl e
  ·rcases hr.tm j with e'|e'
   ·left
    rw[e']at e;cases hv:tg cz j<;>rw[hv]at e<;>first|rfl|cases e
   ·right
    rw[e',e,Ahg]
 ·intro k s c e;exact hr.sat.site _ _ _ (hg k s c e)
 ·intro k t c e;rw[Ss];exact hr.sat.g8 _ _ _ (Gf k t c e)
 ·intro k t c e;exact hr.sat.old _ _ _ (Gf k t c e)
 ·intro k t k' t' c c' e e' hk
  obtain ⟨q1,q2⟩:=hr.sat.inj _ _ _ _ _ _ (Gf _ _ _ e) (Gf _ _ _ e') hk;obtain ⟨s,c0,g,_⟩:=GQ e;obtain ⟨s',c0',g',_⟩:=GQ e';exact ⟨sA hn (by rw[TI];exact g) (by rw[TI];exact g') q1,q2⟩
 ·intro k t c e hw
  exact hr.sat.low _ _ _ (Gf k t c e) (by cases c<;>exact hw)
theorem BR {k:List It} {cz:Tm} {M':Mem} {Q:Tm->Mem->Prop} (τ:List (Nat × Nat)) (h:AA L k cz M' Q) (he:JG τ tm M cz M':=by (conv=>whnf);exact ⟨rfl,rfl,rfl⟩):AA L k tm M Q:=BL τ he h
theorem iX {k:List It} {Q:Tm->Mem->Prop} (h:AA L k (ye 0 tm) (uj M) Q):AA L k tm M Q:=by
 intro σ st hr;refine h σ st ⟨λ j => ?_,⟨?_,?_,?_,?_,?_⟩⟩
 ·rw[WK,bF,cond_false];exact hr.tm j
 ·intro k s c e;rw[TI]at e;exact hr.sat.site _ _ _ e
 ·intro k t c e;rw[YZ]at e;exact hr.sat.g8 _ _ _ e
 ·intro k t c e;rw[YZ]at e;exact hr.sat.old _ _ _ e
 ·intro k t k' t' c c' e e' hk
  rw[YZ]at e e';exact hr.sat.inj _ _ _ _ _ _ e e' hk
 ·intro k t c e hw;rw[YZ]at e;exact hr.sat.low _ _ _ e hw
def yc (k:Nat) (c:BC):Mem->Mem
 | []=>[]
 | (j,s,c')::r=>bif Nat.beq k j then (j,s,c)::r else (j,s,c')::yc k c r
theorem YX {k j s:Nat} {c c':BC} : ∀ {M:Mem},c8 (yc k c M) j=some (s,c') -> ∃ c0,c8 M j=some (s,c0)/\(c0=c'\/(j=k/\c'=c))
 | [],e=>by cases e
 | (i,s0,c0)::r,e=>by
  simp only[yc]at e;cases hk:Nat.beq k i<;>simp only[hk,cond_true,cond_false,c8]at e ⊢
  ·cases hj:Nat.beq j i<;>simp only[hj,cond_true,cond_false]at e ⊢
   ·exact YX e
   ·exact ⟨c',e,Or.inl rfl⟩
  ·cases hj:Nat.beq j i<;>simp only[hj,cond_true,cond_false]at e ⊢
   ·exact ⟨c',e,Or.inl rfl⟩
   ·simp only[Option.some.injEq,Prod.mk.injEq]at e
    obtain ⟨rfl,rfl⟩:=e;exact ⟨c0,rfl,Or.inr ⟨(BQ.1 hj).trans (BQ.1 hk).symm,rfl⟩⟩
theorem QH {kk:List It} {Q:Tm->Mem->Prop} (k s:Nat) (e:c8 M k=some (s,.rw 1 [])) (h:AA L kk tm (yc k (.mx []) M) Q):AA L kk tm M Q:=by
 intro σ st hr;have hg : ∀ j t c,c5 (yc k (.mx []) M) j t=some c -> ∃ c0,c5 M j t=some c0/\c0.g8 σ j=c.g8 σ j:=by
  intro j t c g;obtain ⟨s1,c1,g1,g2,g3⟩:=GQ g;obtain ⟨c0,q1,q2⟩:=YX g1;cases t with
  | zero =>
   rw[g2 rfl];rcases q2 with rfl|⟨rfl,rfl⟩
   ·exact ⟨_,EE q1,rfl⟩
   ·rw[e]at q1
    simp only[Option.some.injEq,Prod.mk.injEq]at q1;obtain ⟨rfl,rfl⟩:=q1;exact ⟨_,EE e,rfl⟩
  | succ i =>
   obtain ⟨rows,z,es,(rfl|⟨a,v,rfl⟩)|⟨w,rfl⟩,Dc,rfl⟩:=g3 i rfl
   ·rcases q2 with rfl|⟨rfl,h0⟩
    ·exact ⟨.rw z es,by simp [c5,q1,Dc],rfl⟩
    ·obtain rfl:rows=[]:=by simpa using h0
     simp at Dc
   ·rcases q2 with rfl|⟨rfl,h0⟩
    ·exact ⟨.rw z es,by simp [c5,q1,Dc],rfl⟩
    ·cases h0
   ·rcases q2 with rfl|⟨rfl,h0⟩
    ·exact ⟨.rw z es,by simp [c5,q1,Dc],rfl⟩
    ·cases h0
 refine h σ st ⟨hr.tm,⟨?_,?_,?_,?_,?_⟩⟩
 ·intro j s' c g
  obtain ⟨c0,q1,_⟩:=YX g;exact hr.sat.site _ _ _ q1
 ·intro j t c g
  obtain ⟨c0,q1,q2⟩:=hg j t c g;rw[<-q2];exact hr.sat.g8 _ _ _ q1
 ·intro j t c g
  obtain ⟨c0,q1,_⟩:=hg j t c g;exact hr.sat.old _ _ _ q1
 ·intro j t j' t' c c' g g' hj
  obtain ⟨_,q1,_⟩:=hg j t c g;obtain ⟨_,q2,_⟩:=hg j' t' c' g';exact hr.sat.inj _ _ _ _ _ _ q1 q2 hj
 ·intro j t c g hw
  cases t with
  | zero =>
   obtain ⟨s1,c1,g1,g2,g3⟩:=GQ g;obtain ⟨c0,q1,q2⟩:=YX g1;have g2:=g2 rfl;subst g2;rcases q2 with rfl|⟨rfl,rfl⟩
   ·exact hr.sat.low _ _ _ (EE q1) hw
   ·exact hr.sat.low _ _ _ (EE e) rfl
  | succ t =>
   obtain ⟨c0,q1,_⟩:=hg _ _ _ g;exact hr.sat.low _ _ _ q1 (Y0 q1)
theorem aO {k:List It} {c:BK} {Q:Tm->Mem->Prop} (h:AA L (.code c :: .lp c::k) tm M Q):AA L (.lp c::k) tm M Q:=λ σ st hr=>iZ.2 (h σ st hr)
theorem SL {α:Type} {k:List It} {c:BK} {Q:Tm->Mem->Prop} (m:α->Nat) (P:α->Prop) (vs:α->Tm) (Ms:α->Mem) (ts:List Nat) (τ:List (Nat × Nat)) (a:α)
  (he:JG τ tm M (vs a++x8 ts tm) (Ms a++M)) (hp:P a)
  (step : ∀ a,P a->(∀ a',m a'<m a->P a'->AA L (.lp c::k) (vs a'++x8 ts tm) (Ms a'++M) Q)->AA L (.code c :: .lp c::k) (vs a++x8 ts tm) (Ms a++M) Q):AA L (.lp c::k) tm M Q:=by
 have key : ∀ n a,m a<n->P a->AA L (.lp c::k) (vs a++x8 ts tm) (Ms a++M) Q:=by
  intro n;induction n with
  | zero=>intro a h;omega
  | succ n ih =>
   intro a ha hp;exact aO (step a hp λ a' h1 h2=>ih a' (by omega) h2)
 exact BL τ he (key (m a+1) a (by omega) hp)
end
end Go.g6
namespace Go.g6
section
variable {α:Type} {enc:α->List AV} {l:List α} {L:Lib}
theorem AG {p q A B:Prop} (h1:p->A) (h2:q->B):AF p q A B:=⟨h1,h2⟩
theorem AU {p A:Prop} (h1:p) (h2:A):AM p A:=⟨h1,h2⟩
section
variable {K:AV->Prop} {a b:Int} {k k':IntKind} {op:BinOp}
theorem W2 {v:AV} (h:DN op k a k' b=some v) (hk:K v):AD op k a k' b K:=⟨v,h,hk⟩
theorem A0 (hr : -9223372036854775808<=a+b/\a+b<=9223372036854775807) (hk:K (.int .i64 (a+b))):AD .add .i64 a .i64 b K:=⟨_,by simp only[DN,if_true];rw[IntWalk.i64_in _ hr],hk⟩
theorem CE (hr : -9223372036854775808<=a-b/\a-b<=9223372036854775807) (hk:K (.int .i64 (a-b))):AD .sub .i64 a .i64 b K:=⟨_,by simp only[DN,if_true];rw[IntWalk.i64_in _ hr],hk⟩
theorem QS (hr : -9223372036854775808<=a*b/\a*b<=9223372036854775807) (hk:K (.int .i64 (a*b))):AD .mul .i64 a .i64 b K:=⟨_,by simp only[DN,if_true];rw[IntWalk.i64_in _ hr],hk⟩
theorem UF (hb:0<b) (h1:(0<=a\/a%b=0)->0<=a%b->a%b<b->K (.int .i64 (a%b))) (h2:a<0->a%b≠0->0<=a%b->a%b<b->K (.int .i64 (a%b-b))):AD .rem .i64 a .i64 b K:=by
 have h5:0<=a%b:=Int.emod_nonneg _ (by omega);have h6:a%b<b:=Int.emod_lt_of_pos _ hb;have e:DN .rem .i64 a .i64 b=some (.int .i64 (a.tmod b)):=by simp only[DN];rw[if_pos ⟨trivial,by omega⟩]
 by_cases hc:0<=a\/a%b=0
 ·rw[vW hb,if_pos hc]at e
  exact ⟨_,e,h1 hc h5 h6⟩
 ·rw[vW hb,if_neg hc]at e
  exact ⟨_,e,h2 (by omega) (by omega) h5 h6⟩
theorem QT (hb:0<b) (ha : -9223372036854775808<=a/\a<=9223372036854775807) (h1:(0<=a\/a%b=0)->K (.int .i64 (a/b))) (h2:a<0->a%b≠0->K (.int .i64 (a/b+1))):AD .quo .i64 a .i64 b K:=by
 have hr:=Yu (m:=b) (by omega) ha;have e:DN .quo .i64 a .i64 b=some (.int .i64 (IntKind.i64.wrap (a.tdiv b))):=by simp only[DN];rw[if_pos ⟨trivial,by omega⟩]
 by_cases hc:0<=a\/a%b=0
 ·rw[vT hb,if_pos hc,IntWalk.i64_in _ hr]at e
  exact ⟨_,e,h1 hc⟩
 ·have AmT:a/b<0:=Int.ediv_neg_of_neg_of_pos (by omega) hb
  rw[vT hb,if_neg hc,IntWalk.i64_in _ (by omega)]at e;exact ⟨_,e,h2 (by omega) (by omega)⟩
theorem zD (h:0<=b/\b<=63) (hk:K (.int .i64 (a/pw b))):AD .shr .i64 a k' b K:=⟨_,Ag0 h,hk⟩
theorem zG (hk:K (.int k (k.wrap (a+b)))):AD .add k a k b K:=⟨_,by simp only[DN,if_true],hk⟩
theorem CZ.neg (hr : -9223372036854775808 <= -a /\ -a<=9223372036854775807) (hk:K (.int .i64 (-a))):CZ .neg .i64 a K:=⟨_,by simp only[QF];rw[show (0:Int)-a = -a by omega,IntWalk.i64_in _ hr],hk⟩
theorem CZ.go {op:UnOp} {v:AV} (h:QF op (.int k a)=some v) (hk:K v):CZ op k a K:=⟨v,h,hk⟩
end
theorem T7 {k:IntKind} {n:Int} {K:Int->Prop} (e:k.wrap n=n) (h:K n):A4 k n K:=⟨by rw[e];exact h⟩
theorem CF {n:Int} {K:Int->Prop} (hr:0<=n/\n<=18446744073709551615) (h:K n):A4 .u64 n K:=T7 (IntWalk.u64_in _ hr) h
theorem QJ {n:Int} {K:Int->Prop} (hr : -9223372036854775808<=n/\n<=9223372036854775807) (h:K n):A4 .i64 n K:=T7 (IntWalk.i64_in _ hr) h
theorem BD {a:Int} {z:Nat} {K:List AV->Prop} {e:α} (he:l[a.toNat]? = some e) (h0:0<=a) (hz:(enc e).length=z) (h:K (enc e)):AX (l.map enc) a z K:=⟨h0,enc e,by simp [he],hz,h⟩
theorem W9 {a:Int} {z:Nat} {K:List AV->Prop} (h0:0<=a/\a<l.length) (hz : ∀ e,(enc e).length=z) (h : ∀ e,l[a.toNat]? = some e->K (enc e)):AX (l.map enc) a z K:=by
 have he:l[a.toNat]? = some (l[a.toNat]'(by omega)):=zE _;exact BD he h0.1 (hz _) (h _ he)
theorem zK {n z:Nat} {K:List AV->Prop} (hn:n<l.length) (hz : ∀ e,(enc e).length=z) (h : ∀ e,l[n]? = some e->K (enc e)):AX (l.map enc) (n:Int) z K :=
 W9 ⟨by omega,by omega⟩ hz h
theorem DQ {i j n:Nat} {K:List AV->Prop} {f:α->List AV} (hi:i<l.length) (hp : ∀ e,part (enc e) j n=some (f e)) (h : ∀ e,l[i]? = some e->K (f e)):A9 (l.map enc) (0+((i:Int)).toNat) j n K:=by
 have he:l[i]? = some l[i]:=zE _;rw[Nat.zero_add,Int.toNat_natCast];exact ⟨enc l[i],f l[i],by simp [he],hp _,h _ he⟩
theorem yW {i:Int} {j n:Nat} {K:List AV->Prop} {f:α->List AV} (hi:0<=i/\i<l.length) (hp : ∀ e,part (enc e) j n=some (f e)) (h : ∀ e,l[i.toNat]? = some e->K (f e)):A9 (l.map enc) (0+i.toNat) j n K:=by
 have hl:i.toNat<l.length:=by omega
 have he:l[i.toNat]? = some l[i.toNat]:=zE _;rw[Nat.zero_add];exact ⟨enc l[i.toNat],f l[i.toNat],by rw[List.getElem?_map,he];rfl,hp _,h _ he⟩
theorem FJ {i:Nat} {vs:List AV} {K:List (List AV)->Prop} (e:α) (he:vs=enc e) (hz : ∀ x,(enc x).length=vs.length) (hi:i<l.length) (h:K ((l.set i e).map enc)):BG (l.map enc) (0+((i:Int)).toNat) 0 vs K:=by
 rw[Nat.zero_add,Int.toNat_natCast];refine ⟨enc l[i],by simp [zE hi],by rw[hz];omega,?_⟩;rw[show splice (enc l[i]) 0 vs=vs by simp [splice,<-hz l[i]],he,<-List.map_set];exact h
theorem UD {i j n:Nat} {K:List AV->Prop} {e:α} {ds:List AV} (he:l[i]? = some e) (hp:part (enc e) j n=some ds) (h:K ds):A9 (l.map enc) i j n K:=⟨enc e,ds,by simp [he],hp,h⟩
theorem Ahe {cs vs:List AV} (h:cs.length=vs.length):splice cs 0 vs=vs:=by
 simp [splice,<-h]
theorem zU {i:Nat} {vs:List AV} {K:List (List AV)->Prop} (e:α) (he:vs=enc e) (hz : ∀ x,(enc x).length=vs.length) (hi:i<l.length) (h:K ((l.set i e).map enc)):BG (l.map enc) i 0 vs K:=by
 refine ⟨enc l[i],by simp [zE hi],by rw[hz];omega,?_⟩;rw[Ahe (hz _),he,<-List.map_set];exact h
theorem ER {a b:Int} {bytes:Nat} {zero:List AV} {K:List (List AV)->Nat->Prop} (x:α) (n:Nat) (hx:zero=enc x) (hn:a=n) (hr:a<=b/\b*bytes<=140737488355328/\b<=9223372036854775807) (h:K ((List.replicate n x).map enc) n):B8 a b bytes zero K:=by
 subst hn hx;refine ⟨⟨by omega,hr.1,by simpa [D5] using hr.2.1,hr.2.2⟩,?_⟩;simpa using h
theorem AW {K:Nat->Prop} (h:K l.length):AR (l.map enc) K:=⟨by simpa using h⟩
theorem FS {len z bytes:Nat} {vs:List AV} {K:List (List AV)->Nat->Prop} (e:α) (he:vs=enc e) (hl:len=l.length) (hz:vs.length=z) (hr:(l.length+1)*bytes<=140737488355328) (gn:l.length+1<=9223372036854775807) (h:K ((l++[e]).map enc) (l++[e]).length):B6 (l.map enc) len [vs] z bytes K:=by
 subst hl;refine ⟨by simp,by simpa using hz,by simpa [D5] using hr,by simpa using gn,?_⟩;rw[zT (by simp)];simpa [he] using h
theorem WT {len z bytes:Nat} {l':List α} {K:List (List AV)->Nat->Prop} (hl:len=l.length) (hz : ∀ x,(enc x).length=z) (hr:(l.length+l'.length)*bytes<=140737488355328) (gn:l.length+l'.length<=9223372036854775807) (h:K ((l++l').map enc) (l++l').length):B6 (l.map enc) len (l'.map enc) z bytes K:=by
 subst hl;refine ⟨by simp,by simp [hz],by simpa [D5] using hr,by simpa using gn,?_⟩;rw[zT (by simp)];simpa using h
theorem jB {z bytes:Nat} {vs:List AV} {K:List (List AV)->Nat->Prop} (e:α) (he:vs=enc e) (hz:vs.length=z) (hb:bytes<=140737488355328) (h:K ([e].map enc) 1):CT [vs] z bytes K :=
 ⟨by simpa using hz,by simpa [D5] using hb,by simp,by simpa [he] using h⟩
theorem PE {z bytes:Nat} {K:List (List AV)->Nat->Prop} (hz : ∀ x,(enc x).length=z) (hr:l.length*bytes<=140737488355328) (gn:l.length<=9223372036854775807) (h:K (l.map enc) l.length):CT (l.map enc) z bytes K :=
 ⟨by simp [hz],by simpa [D5] using hr,by simpa using gn,by simpa using h⟩
theorem XA {off len:Nat} {K:List (List AV)->Prop} (hl:off+len<=l.length) (h:K (((l.drop off).take len).map enc)):B9 (l.map enc) off len K :=
 ⟨by simpa using hl,by rw[<-List.map_drop,<-List.map_take];exact h⟩
theorem gD : ∀ {e:List AV},FY e=true->MB e=true/\e.map nl=e
 | [],_=>⟨rfl,rfl⟩
 | v::r,h=>by
  have hv:FY r=true:=by cases v<;>simp only[FY]at h<;>first|cases h|exact h
  obtain ⟨h1,h2⟩:=gD hv;cases v<;>simp only[FY]at h<;>first|cases h|exact ⟨h1,by rw[List.map_cons,h2];rfl⟩
theorem sE : ∀ {es:List (List AV)},(∀ e∈es,FY e=true)->es.map (λ e=>e.map nl)=es
 | [],_=>rfl
 | e::r,h=>by rw[List.map_cons,(gD (h e List.mem_cons_self)).2,sE λ x hx=>h x (List.mem_cons_of_mem _ hx)]
theorem XB {es:List (List AV)} {off len:Nat} {K:List (List AV)->Prop} (hl:off+len<=es.length) (hz : ∀ e∈es,FY e=true) (h:K ((es.drop off).take len)):BF es off len K :=
 ⟨hl,λ e he=>(gD (hz e he)).1,by rw[sE λ e he=>hz e (List.mem_of_mem_drop (List.mem_of_mem_take he))];exact h⟩
theorem GC {off len:Nat} {K:List (List AV)->Prop} (hz : ∀ x,FY (enc x)=true) (ho:off=0) (hl:len=l.length) (h:K (l.map enc)):BF (l.map enc) off len K:=by
 subst hl ho;refine XB (by simp) (λ e he => ?_) (by rw[List.drop_zero,zT (by simp)];exact h);obtain ⟨x,_,rfl⟩:=List.mem_map.1 he;exact hz x
theorem HO {off len:Nat} {K:List (List AV)->Prop} (hz : ∀ x,FY (enc x)=true) (hl:off+len<=l.length) (h:K (((l.drop off).take len).map enc)):BF (l.map enc) off len K:=by
 refine XB (by simpa using hl) (λ e he => ?_) (by rw[<-List.map_drop,<-List.map_take];exact h);obtain ⟨x,_,rfl⟩:=List.mem_map.1 he;exact hz x
theorem FI {e:List AV} {K:List (List AV)->Prop} (h:K [e]):B9 [e] 0 1 K:=⟨by simp,h⟩
theorem zQ {K:List (List AV)->Prop} (h:K []):BF [] 0 0 K:=⟨by simp,by simp,h⟩
theorem HN {e:List AV} {K:List (List AV)->Prop} (h0:FY e=true) (h:K [e]):BF [e] 0 1 K:=XB (by simp) (by simpa using h0) h
theorem PJ {e e':List AV} {K:List (List AV)->Prop} (h0:FY e=true) (h1:FY e'=true) (h:K [e,e']):BF [e,e'] 0 2 K:=XB (by simp) (by simpa using ⟨h0,h1⟩) h
section
variable {β:Type} {z:Nat} {ll:List (List β)} {en:β->List AV}
abbrev A8 (z:Nat) (en:β->List AV) (ll:List (List β)):List (Option (Nat × List (List AV))):=ll.map λ r=>some (z,r.map en)
theorem EK {i:Nat} {K:Option (Nat × List (List AV))->Prop} (hi:i<ll.length) (h : ∀ r,ll[i]? = some r->K (some (z,r.map en))):BN (A8 z en ll) (0+((i:Int)).toNat) K:=by
 have he:ll[i]? = some ll[i]:=zE _;exact ⟨_,by rw[Nat.zero_add,Int.toNat_natCast,List.getElem?_map,he];rfl,h _ he⟩
theorem yT {i:Nat} {K:Nat->List (List AV)->Prop} {r:List β} (hr:ll[i]? = some r) (h:K z (r.map en)):BH (A8 z en ll) i K :=
 ⟨z,r.map en,by rw[List.getElem?_map,hr];rfl,h⟩
theorem EV {i:Nat} {K:Nat->List (List AV)->Prop} {r:List β} (hr:ll[i]? = some r) (h:K z (r.map en)):BH (A8 z en ll) (0+((i:Int)).toNat) K:=by
 rw[Nat.zero_add,Int.toNat_natCast];exact yT hr h
theorem zI {i:Nat} {r r':List β} {K:List (Option (Nat × List (List AV)))->Prop} (hl:r'.length=r.length) (h:K (A8 z en (ll.set i r'))):CK (A8 z en ll) (0+((i:Int)).toNat) z (r.map en) (r'.map en) K:=by
 rw[Nat.zero_add,Int.toNat_natCast];exact ⟨by simpa using hl,by simpa [A8,List.map_set] using h⟩
theorem QI {len bytes:Nat} {r:List β} {K:List (Option (Nat × List (List AV)))->Nat->Prop} (hl:len=ll.length) (hr:(ll.length+1)*bytes<=140737488355328) (gn:ll.length+1<=9223372036854775807) (h:K (A8 z en (ll++[r])) (ll++[r]).length):C7 (A8 z en ll) len (some (z,r.map en)) bytes K:=by
 subst hl;exact ⟨by simp,by simpa [D5] using hr,gn,by simpa [A8] using h⟩
theorem tP (q:Bool) : ∀ ll:List (List β),QC q (A8 z en ll)=ll.map λ r=>[AV.sl q (r.map en)]
 | []=>rfl
 | r::l=>by simp only[A8,List.map_cons,QC];rw[show QC q (l.map λ r=>some (z,r.map en))=_ from tP q l]
theorem KH {q:Bool} {off len:Nat} {K:List (List AV)->Prop} (hz : ∀ x,FY (en x)=true) (ho:off=0) (hl:len=ll.length) (h:K (ll.map λ r=>[AV.sl q (r.map en)])):CW q (A8 z en ll) off len K:=by
 refine ⟨ho,by simpa using hl,λ z' es hm e he => ?_,by rw[tP];exact h⟩;obtain ⟨r,_,hr⟩:=List.mem_map.1 hm;simp only[Option.some.injEq,Prod.mk.injEq]at hr;obtain ⟨rfl,rfl⟩:=hr;obtain ⟨x,_,rfl⟩:=List.mem_map.1 he;exact hz x
end
theorem xY {len:Nat} {a:Int} {K:Nat->Nat->Prop} (h0:0<=a/\a<=len) (h:K a.toNat len):B1 (some a) none len K:=⟨a.toNat,len,⟨h0.1,rfl⟩,rfl,by omega,h⟩
theorem jC {len:Nat} {b:Int} {K:Nat->Nat->Prop} (h0:0<=b/\b<=len) (h:K 0 b.toNat):B1 none (some b) len K:=⟨0,b.toNat,rfl,⟨h0.1,h0.2,rfl⟩,by omega,h⟩
theorem xZ {len:Nat} {a b:Int} {K:Nat->Nat->Prop} (h0:0<=a/\a<=b/\b<=len) (h:K a.toNat b.toNat):B1 (some a) (some b) len K:=⟨a.toNat,b.toNat,⟨h0.1,rfl⟩,⟨by omega,by omega,rfl⟩,by omega,h⟩
theorem kA {z:Nat} {lo hi:Option Int} {K:List (List AV)->Prop} (hz : ∀ x,(enc x).length=z) (h:B1 lo hi l.length λ a h=>K (((l.take h).drop a).map enc)):CR z (l.map enc) lo hi K:=by
 refine ⟨by simp [hz],?_⟩;rw[List.length_map];obtain ⟨a,b,h1,h2,h3,h4⟩:=h;refine ⟨a,b,h1,h2,h3,?_⟩;show K _;rw[<-List.map_take,<-List.map_drop];exact h4
theorem SR {z k:Nat} {K:List (List AV)->Prop} (hz : ∀ x,(enc x).length=z) (hk:k<=l.length) (h:K ((l.take k).map enc)):CR z (l.map enc) none (some (k:Int)) K :=
 kA hz (jC (by omega) (by simpa using h))
theorem zP {z k:Nat} {K:List (List AV)->Prop} (hz : ∀ x,(enc x).length=z) (hk:k<=l.length) (h:K ((l.drop k).map enc)):CR z (l.map enc) (some (k:Int)) none K :=
 kA hz (xY (by omega) (by simpa using h))
theorem AE {f:Nat} {vs:List AV} {K:AV->Prop} {r:AV} (h:Ev L f vs r) (hk:K r):AB L f vs K:=⟨r,h,hk⟩
theorem jE {f:Nat} {vs:List AV} {K:AV->Prop} {p:Prop} [Decidable p] (h:Ev L f vs (.bool (decide p))) (h1:p->K (.bool true)) (h2 : ¬ p->K (.bool false)):AB L f vs K:=by
 refine ⟨_,h,?_⟩;by_cases e:p
 ·rw[decide_eq_true e];exact h1 e
 ·rw[decide_eq_false e];exact h2 e
theorem AY {a r:AV} (h:a=r) (hc:A7 r):AJ a r:=⟨h,hc⟩
theorem ES {a r:Bool} (h:a=r):AJ (.bool a) (.bool r):=⟨by rw[h],by simp [A7]⟩
theorem yR {p:Prop} [Decidable p] (h:p):AJ (.bool true) (.bool (decide p)):=⟨by simp [h],by simp [A7]⟩
theorem jO {p:Prop} [Decidable p] (h : ¬ p):AJ (.bool false) (.bool (decide p)):=⟨by simp [h],by simp [A7]⟩
theorem EI {k:IntKind} {a b:Int} (h:a=b):AJ (.int k a) (.int k b):=⟨by rw[h],by simp [A7]⟩
theorem XX (h : ∀ x,CJ (enc x)) : ∀ l:List α,GL (l.map enc)
 | []=>by simp [GL]
 | x::r=>by rw[List.map_cons,GL];exact ⟨h x,XX h r⟩
end
theorem D0 {α:Type} {L:Lib} {k:List It} {cd:BK} {tm:Tm} {M:Mem} {Q:Tm->Mem->Prop} (m:α->Nat) (P:α->Prop) (vs:α->Tm) (Ms:α->Mem) (ts:List Nat) (τ:List (Nat × Nat)) (a:α)
  (he:JG τ tm M (vs a++x8 ts tm) (Ms a++M)) (hp:P a)
  (step : ∀ a,P a->(∀ a',m a'<m a->P a'->AA L (.lp cd::k) (vs a'++x8 ts tm) (Ms a'++M) Q)->AA L (.code cd :: .lp cd::k) (vs a++x8 ts tm) (Ms a++M) Q):AA L (.lp cd::k) tm M Q :=
 SL (α:=α) (λ x=>m x) (λ x=>P x) (λ x=>vs x) (λ x=>Ms x) ts τ a he hp λ a h ih=>step a h λ a' h1 h2=>ih a' h1 h2
theorem WR {α β:Type} {L:Lib} {k:List It} {cd:BK} {tm:Tm} {M:Mem} {Q:Tm->Mem->Prop} (m:α->β->Nat) (P:α->β->Prop) (vs:α->β->Tm) (Ms:α->β->Mem) (ts:List Nat) (τ:List (Nat × Nat)) (a:α) (b:β)
  (he:JG τ tm M (vs a b++x8 ts tm) (Ms a b++M)) (hp:P a b)
  (step : ∀ a b,P a b->(∀ a' b',m a' b'<m a b->P a' b'->AA L (.lp cd::k) (vs a' b'++x8 ts tm) (Ms a' b'++M) Q)->AA L (.code cd :: .lp cd::k) (vs a b++x8 ts tm) (Ms a b++M) Q):AA L (.lp cd::k) tm M Q :=
 SL (α:=α × β) (λ x=>m x.1 x.2) (λ x=>P x.1 x.2) (λ x=>vs x.1 x.2) (λ x=>Ms x.1 x.2) ts τ (a,b) he hp λ⟨a,b⟩ h ih=>step a b h λ a' b' h1 h2=>ih (a',b') h1 h2
theorem wO {α β γ:Type} {L:Lib} {k:List It} {cd:BK} {tm:Tm} {M:Mem} {Q:Tm->Mem->Prop} (m:α->β->γ->Nat) (P:α->β->γ->Prop) (vs:α->β->γ->Tm) (Ms:α->β->γ->Mem) (ts:List Nat) (τ:List (Nat × Nat)) (a:α) (b:β) (c:γ)
  (he:JG τ tm M (vs a b c++x8 ts tm) (Ms a b c++M)) (hp:P a b c)
  (step : ∀ a b c,P a b c->(∀ a' b' c',m a' b' c'<m a b c->P a' b' c'->AA L (.lp cd::k) (vs a' b' c'++x8 ts tm) (Ms a' b' c'++M) Q)->AA L (.code cd :: .lp cd::k) (vs a b c++x8 ts tm) (Ms a b c++M) Q):AA L (.lp cd::k) tm M Q :=
 SL (α:=α × β × γ) (λ x=>m x.1 x.2.1 x.2.2) (λ x=>P x.1 x.2.1 x.2.2) (λ x=>vs x.1 x.2.1 x.2.2) (λ x=>Ms x.1 x.2.1 x.2.2) ts τ (a,b,c) he hp λ⟨a,b,c⟩ h ih=>step a b c h λ a' b' c' h1 h2=>ih (a',b',c') h1 h2
theorem aM {α β γ δ:Type} {L:Lib} {k:List It} {cd:BK} {tm:Tm} {M:Mem} {Q:Tm->Mem->Prop} (m:α->β->γ->δ->Nat) (P:α->β->γ->δ->Prop) (vs:α->β->γ->δ->Tm) (Ms:α->β->γ->δ->Mem) (ts:List Nat) (τ:List (Nat × Nat)) (a:α) (b:β) (c:γ) (d:δ)
  (he:JG τ tm M (vs a b c d++x8 ts tm) (Ms a b c d++M)) (hp:P a b c d)
  (step : ∀ a b c d,P a b c d->(∀ a' b' c' d',m a' b' c' d'<m a b c d->P a' b' c' d'->AA L (.lp cd::k) (vs a' b' c' d'++x8 ts tm) (Ms a' b' c' d'++M) Q)->AA L (.code cd :: .lp cd::k) (vs a b c d++x8 ts tm) (Ms a b c d++M) Q):AA L (.lp cd::k) tm M Q :=
 SL (α:=α × β × γ × δ) (λ x=>m x.1 x.2.1 x.2.2.1 x.2.2.2) (λ x=>P x.1 x.2.1 x.2.2.1 x.2.2.2) (λ x=>vs x.1 x.2.1 x.2.2.1 x.2.2.2) (λ x=>Ms x.1 x.2.1 x.2.2.1 x.2.2.2) ts τ (a,b,c,d) he hp λ⟨a,b,c,d⟩ h ih=>step a b c d h λ a' b' c' d' h1 h2=>ih (a',b',c',d') h1 h2
theorem aN {α β γ δ ε:Type} {L:Lib} {k:List It} {cd:BK} {tm:Tm} {M:Mem} {Q:Tm->Mem->Prop} (m:α->β->γ->δ->ε->Nat) (P:α->β->γ->δ->ε->Prop) (vs:α->β->γ->δ->ε->Tm) (Ms:α->β->γ->δ->ε->Mem) (ts:List Nat) (τ:List (Nat × Nat)) (a:α) (b:β) (c:γ) (d:δ) (e:ε)
  (he:JG τ tm M (vs a b c d e++x8 ts tm) (Ms a b c d e++M)) (hp:P a b c d e)
  (step : ∀ a b c d e,P a b c d e->(∀ a' b' c' d' e',m a' b' c' d' e'<m a b c d e->P a' b' c' d' e'->AA L (.lp cd::k) (vs a' b' c' d' e'++x8 ts tm) (Ms a' b' c' d' e'++M) Q)->AA L (.code cd :: .lp cd::k) (vs a b c d e++x8 ts tm) (Ms a b c d e++M) Q):AA L (.lp cd::k) tm M Q :=
 SL (α:=α × β × γ × δ × ε) (λ x=>m x.1 x.2.1 x.2.2.1 x.2.2.2.1 x.2.2.2.2) (λ x=>P x.1 x.2.1 x.2.2.1 x.2.2.2.1 x.2.2.2.2) (λ x=>vs x.1 x.2.1 x.2.2.1 x.2.2.2.1 x.2.2.2.2) (λ x=>Ms x.1 x.2.1 x.2.2.1 x.2.2.2.1 x.2.2.2.2) ts τ (a,b,c,d,e) he hp λ⟨a,b,c,d,e⟩ h ih=>step a b c d e h λ a' b' c' d' e' h1 h2=>ih (a',b',c',d',e') h1 h2
theorem wP {α β γ δ ε ζ:Type} {L:Lib} {k:List It} {cd:BK} {tm:Tm} {M:Mem} {Q:Tm->Mem->Prop} (m:α->β->γ->δ->ε->ζ->Nat) (P:α->β->γ->δ->ε->ζ->Prop) (vs:α->β->γ->δ->ε->ζ->Tm) (Ms:α->β->γ->δ->ε->ζ->Mem) (ts:List Nat) (τ:List (Nat × Nat)) (a:α) (b:β) (c:γ) (d:δ) (e:ε) (f:ζ)
  (he:JG τ tm M (vs a b c d e f++x8 ts tm) (Ms a b c d e f++M)) (hp:P a b c d e f)
  (step : ∀ a b c d e f,P a b c d e f->(∀ a' b' c' d' e' f',m a' b' c' d' e' f'<m a b c d e f->P a' b' c' d' e' f'->AA L (.lp cd::k) (vs a' b' c' d' e' f'++x8 ts tm) (Ms a' b' c' d' e' f'++M) Q)->AA L (.code cd :: .lp cd::k) (vs a b c d e f++x8 ts tm) (Ms a b c d e f++M) Q):AA L (.lp cd::k) tm M Q :=
 SL (α:=α × β × γ × δ × ε × ζ) (λ x=>m x.1 x.2.1 x.2.2.1 x.2.2.2.1 x.2.2.2.2.1 x.2.2.2.2.2) (λ x=>P x.1 x.2.1 x.2.2.1 x.2.2.2.1 x.2.2.2.2.1 x.2.2.2.2.2) (λ x=>vs x.1 x.2.1 x.2.2.1 x.2.2.2.1 x.2.2.2.2.1 x.2.2.2.2.2) (λ x=>Ms x.1 x.2.1 x.2.2.1 x.2.2.2.1 x.2.2.2.2.1 x.2.2.2.2.2) ts τ (a,b,c,d,e,f) he hp λ⟨a,b,c,d,e,f⟩ h ih=>step a b c d e f h λ a' b' c' d' e' f' h1 h2=>ih (a',b',c',d',e',f') h1 h2
theorem DT {α:Type} {L:Lib} {k:List It} {cd:BK} {tm:Tm} {M:Mem} {Q:Tm->Mem->Prop} (m:α->Nat) (P:α->Prop) (vs:α->Tm) (Ms:α->Mem) (a:α)
  (hp:P a)
  (step : ∀ a,P a->(∀ a',m a'<m a->P a'->AA L (.lp cd::k) (vs a'++x8 [] tm) (Ms a'++M) Q)->AA L (.code cd :: .lp cd::k) (vs a++x8 [] tm) (Ms a++M) Q)
  (he:JG [] tm M (vs a++x8 [] tm) (Ms a++M):=by (conv=>whnf);exact ⟨rfl,rfl,rfl⟩):AA L (.lp cd::k) tm M Q :=
 D0 m P vs Ms [] [] a he hp step
theorem GW {α β:Type} {L:Lib} {k:List It} {cd:BK} {tm:Tm} {M:Mem} {Q:Tm->Mem->Prop} (m:α->β->Nat) (P:α->β->Prop) (vs:α->β->Tm) (Ms:α->β->Mem) (a:α) (b:β)
  (hp:P a b)
  (step : ∀ a b,P a b->(∀ a' b',m a' b'<m a b->P a' b'->AA L (.lp cd::k) (vs a' b'++x8 [] tm) (Ms a' b'++M) Q)->AA L (.code cd :: .lp cd::k) (vs a b++x8 [] tm) (Ms a b++M) Q)
  (he:JG [] tm M (vs a b++x8 [] tm) (Ms a b++M):=by (conv=>whnf);exact ⟨rfl,rfl,rfl⟩):AA L (.lp cd::k) tm M Q :=
 WR m P vs Ms [] [] a b he hp step
theorem F4 {α β γ:Type} {L:Lib} {k:List It} {cd:BK} {tm:Tm} {M:Mem} {Q:Tm->Mem->Prop} (m:α->β->γ->Nat) (P:α->β->γ->Prop) (vs:α->β->γ->Tm) (Ms:α->β->γ->Mem) (a:α) (b:β) (c:γ)
  (hp:P a b c)
  (step : ∀ a b c,P a b c->(∀ a' b' c',m a' b' c'<m a b c->P a' b' c'->AA L (.lp cd::k) (vs a' b' c'++x8 [] tm) (Ms a' b' c'++M) Q)->AA L (.code cd :: .lp cd::k) (vs a b c++x8 [] tm) (Ms a b c++M) Q)
  (he:JG [] tm M (vs a b c++x8 [] tm) (Ms a b c++M):=by (conv=>whnf);exact ⟨rfl,rfl,rfl⟩):AA L (.lp cd::k) tm M Q :=
 wO m P vs Ms [] [] a b c he hp step
theorem AC {L:Lib} {Q:Tm->Mem->Prop} {c:BK} {k:List It} {tm:Tm} {M:Mem} (h:fT (ye 0 tm) λ tm=>TH M λ M=>XK L Q 500 (.code c::k) tm M):AA L (.code c::k) tm M Q:=by
 rw[TB,YW]at h;exact iX (bA h)
end Go.g6

namespace Go.g6
structure Mo (s:Nat) (o o2:AH):Prop where
 dead : ∀ t,o.get s t=none
 same : ∀ q,q≠s->o2 q=o q
section
variable {s:Nat} {o o2:AH}
theorem Mo.get (h:Mo s o o2) {q t:Nat} {b:D7} (e:o.get q t=some b):q≠s/\o2.get q t=some b:=by
 have hq:q≠s:=λ hq=>by rw[hq,h.dead]at e;cases e
 exact ⟨hq,by unfold AH.get at e ⊢;rw[h.same q hq];exact e⟩
theorem YQ (o:AH) (q:Nat) : ∀ b9:List Nat,o.l9 b9 q=if q∈b9 then ⟨0,λ_=>none⟩ else o q
 | []=>by simp [AH.l9]
 | x::r=>by
  simp only[AH.l9,List.mem_cons];by_cases hq:q=x
  ·simp [hq]
  ·simp [hq,YQ o q r]
theorem Mo.l9 (h:Mo s o o2) (b9:List Nat):Mo s (o.l9 b9) (o2.l9 b9):=by
 refine ⟨λ t => ?_,λ q hq => ?_⟩
 ·unfold AH.get
  rw[YQ];split
  ·rfl
  ·exact h.dead t
 ·rw[YQ,YQ,h.same q hq]
theorem Mo.put (h:Mo s o o2) {q:Nat} (hq:q≠s) (x:CB):Mo s (o.put q x) (o2.put q x):=by
 refine ⟨λ t => ?_,λ p hp => ?_⟩
 ·unfold AH.get AH.put
  rw[if_neg (Ne.symm hq)];exact h.dead t
 ·simp only[AH.put]
  split
  ·rfl
  ·exact h.same p hp
theorem Mo.kb (hm:Mo s o o2) {q t i j n:Nat} {cs:List AV} (h:o.kb q t i j n=some cs):o2.kb q t i j n=some cs:=by
 unfold AH.kb at *;cases hg:o.get q t with
 | none=>simp [hg]at h
 | some b =>
  rw[(hm.get hg).2];simpa [hg] using h
theorem Mo.elems (hm:Mo s o o2) {v:AV} {es:List (List AV)} (h:EM o v=some es):EM o2 v=some es:=by
 cases v with
 | dm v=>cases v<;>exact h
 | row q t z off len =>
  simp only[EM]at h ⊢;cases hg:o.get q t with
  | none=>simp [hg]at h
  | some b =>
   rw[(hm.get hg).2];simpa [hg] using h
 | _=>exact h
theorem Mo.snap (hm:Mo s o o2) (b:Bool) : ∀ (d:Nat) (c c':AV),snap o b d c=some c'->snap o2 b d c=some c'
 | 0,c,c',h=>by cases c<;>simp_all [Go.g6.snap]
 | d+1,c,c',h=>by
  cases c<;>first|(simp_all [Go.g6.snap];done)|skip
  rename_i q t z off len;simp only[Go.g6.snap]at h ⊢;cases he:EM o (.row q t z off len) with
  | none=>simp [he]at h
  | some es =>
   simp only[he]at h;rw[hm.elems he];simp only[Option.map_eq_some_iff]at h ⊢;obtain ⟨es',h1,h2⟩:=h;exact ⟨es',KO (λ x y hx=>KO (hm.snap b d) hx) h1,h2⟩
theorem Mo.j5 (hm:Mo s o o2) (b:Bool) (c c':AV) (h:j5 o b c=some c'):j5 o2 b c=some c':=by
 cases c<;>first|exact hm.snap b 6 _ _ h|skip
 simp only[Go.g6.j5,Option.map_eq_some_iff]at h ⊢;obtain ⟨cs,h1,h2⟩:=h;exact ⟨cs,KO (hm.snap b 6) h1,h2⟩
theorem Mo.bd (hm:Mo s o o2) (b:Bool) (c c':AV) (h:bd o b c=some c'):bd o2 b c=some c':=by
 rcases Classical.em (c = .nil) with rfl|hc
 ·exact h
 ·have e : ∀ o:AH,Go.g6.bd o b c=Go.g6.j5 o b c:=λ o=>by cases c<;>first|rfl|exact (hc rfl).elim
  rw[e]at h ⊢;exact hm.j5 b _ _ h
end
def PV (s:Nat):DP->Bool
 | .c9 _ _=>false
 | .q8 _ _=>false
 | .di _ _ _=>false
 | .app s' _ _ _ _=>s' != s
 | op=>match D6 op with
  | some s'=>s' != s
  | none=>true
def BU.lift (s:Nat) (x:CB):BU->BU
 | .dp v o => .dp v (o.put s x)
 | E=>E
section
variable {C:Cl} {b9:List Nat} {ρ:AP->AV} {s:Nat} {o o2:AH}
theorem AfB {o:AH} {p q:Nat} (h:p≠q) (x y:CB):(o.put p x).put q y=(o.put q y).put p x:=by
 funext r
 simp only[AH.put];by_cases h1:r=q<;>by_cases h2:r=p
 ·exact absurd (h2.symm.trans h1) h
 ·simp [h1,Ne.symm h]
 ·simp [h2,h]
 ·simp [h1,h2]
theorem Mo.eq (h:Mo s o o2):o2=o.put s (o2 s):=by
 funext q
 simp only[AH.put];split
 ·rename_i e;rw[e]
 ·rename_i e;exact h.same q e
theorem pD {op:DP} (h:PV s op=true) {q:Nat} (hq:D6 op=some q):q≠s:=by
 intro e;subst e;cases op<;>simp_all [PV,D6]
theorem Zm (hm:Mo s o o2) {E:BU} (h:(∃ v,E = .val v) \/ ∃ q,q≠s/\((∃ b v,E = .new q b v\/E = .vh q b v) \/ ∃ x v,E = .v7 q x\/E = .uo q x v)) :
  E.lift s (o2 s)=E/\Mo s (E.m8 o) (E.m8 o2)/\(E.m8 o2) s=o2 s/\E.valOf o2=E.valOf o:=by
 rcases h with ⟨v,rfl⟩|⟨q,hq,⟨b,v,rfl|rfl⟩|⟨x,v,rfl|rfl⟩⟩
 ·exact ⟨rfl,hm,rfl,rfl⟩
 ·refine ⟨rfl,?_,by simp [BU.m8,AH.put,Ne.symm hq],by simp only[BU.valOf,AH.j6,hm.same q hq]⟩
  simp only[BU.m8,hm.same q hq];exact hm.put hq _
 ·refine ⟨rfl,?_,by simp [BU.m8,AH.put,Ne.symm hq],by simp only[BU.valOf,AH.j6,hm.same q hq]⟩
  simp only[BU.m8,hm.same q hq];exact hm.put hq _
 ·exact ⟨rfl,hm.put hq _,by simp [BU.m8,AH.put,Ne.symm hq],rfl⟩
 ·exact ⟨rfl,hm.put hq _,by simp [BU.m8,AH.put,Ne.symm hq],rfl⟩
theorem Ahz (hm:Mo s o o2) {v:AV} {q:Nat} (hq:q≠s) (x:CB):(BU.dp v (o.put q x)).lift s (o2 s) = .dp v (o2.put q x)/\Mo s (o.put q x) (o2.put q x)/\(o2.put q x) s=o2 s:=by
 refine ⟨?_,hm.put hq x,by simp [AH.put,Ne.symm hq]⟩;rw[BU.lift,AfB hq,<-hm.eq]
theorem Wz (hm:Mo s o o2) {op:DP} (hf:PV s op=true) {E:BU} (h:g7 C b9 ρ o op=some E):g7 C b9 ρ o2 op=some (E.lift s (o2 s))/\Mo s (E.m8 o) ((E.lift s (o2 s)).m8 o2)/\((E.lift s (o2 s)).m8 o2) s=o2 s/\(E.lift s (o2 s)).valOf o2=E.valOf o:=by
 have fin:g7 C b9 ρ o2 op=some E->((∃ v,E = .val v) \/ ∃ q,q≠s/\((∃ b v,E = .new q b v\/E = .vh q b v) \/ ∃ x v,E = .v7 q x\/E = .uo q x v))->g7 C b9 ρ o2 op=some (E.lift s (o2 s))/\Mo s (E.m8 o) ((E.lift s (o2 s)).m8 o2)/\((E.lift s (o2 s)).m8 o2) s=o2 s/\(E.lift s (o2 s)).valOf o2=E.valOf o:=λ h1 h2=>by
  obtain ⟨e,g1,g2,g3⟩:=Zm hm h2;rw[e];exact ⟨h1,g1,g2,g3⟩
 have form:FN op=false->((∃ v,E = .val v) \/ ∃ q,q≠s/\((∃ b v,E = .new q b v\/E = .vh q b v) \/ ∃ x v,E = .v7 q x\/E = .uo q x v)):=λ ht=>by
  cases hs:D6 op with
  | none=>exact .inl (cQ h ht hs)
  | some q=>exact .inr ⟨q,pD hf hs,cP h hs⟩
 have Bv : ∀ {v:AV} {q:Nat} (x:CB),q≠s->E = .dp v (o.put q x)->g7 C b9 ρ o2 op=some (.dp v (o2.put q x))->g7 C b9 ρ o2 op=some (E.lift s (o2 s))/\Mo s (E.m8 o) ((E.lift s (o2 s)).m8 o2)/\((E.lift s (o2 s)).m8 o2) s=o2 s/\(E.lift s (o2 s)).valOf o2=E.valOf o:=λ x hq e h1=>by
  subst e;obtain ⟨g1,g2,g3⟩:=Ahz (v:=_) hm hq x;rw[g1];exact ⟨h1,g2,g3,rfl⟩
 cases hr:OE op with
 | true =>
  refine fin ?_ (form (by cases op<;>simp_all [OE,FN]));cases op<;>simp [OE]at hr;case ld agg n x =>
   simp only[g7]at h ⊢;cases hx:ρ x<;>rw[hx]at h<;>simp only at h ⊢ <;> first|exact h|skip
   rename_i q t i j;cases hl:(o.l9 b9).kb q t i j n with
   | none=>rw[hl]at h;cases h
   | some cs=>rw[hl]at h;rw[(hm.l9 b9).kb hl];exact h
  case call f xs =>
   simp only[g7]at h ⊢;cases hl:(xs.map ρ).mapM (j5 (o.l9 b9) true) with
   | none=>rw[hl]at h;cases h
   | some vs=>rw[hl]at h;rw[KO ((hm.l9 b9).j5 true) hl];exact h
  case z0 s' f xs =>
   simp only[g7]at h ⊢;cases hl:(xs.map ρ).mapM (bd (o.l9 b9) true) with
   | none=>rw[hl]at h;cases h
   | some vs=>rw[hl]at h;rw[KO ((hm.l9 b9).bd true) hl];exact h
 | false =>
  cases ht:FN op with
  | false =>
   refine fin ?_ (form ht);rw[<-nH o o2 ht (λ e=>by rw[hr]at e;cases e) λ q hq=>(hm.same q (pD hf hq)).symm];exact h
  | true =>
   cases op<;>simp [FN]at ht<;>first|(simp [PV]at hf;done)|skip
   case st n x v =>
    have h':=h;simp only[g7]at h';split at h'
    ·rename_i q t i j vs hx hv
     split at h'
     ·rename_i hn
      simp only[Option.map_eq_some_iff]at h';obtain ⟨o',ho,rfl⟩:=h';unfold AH.lf at ho;cases hg:o.get q t with
      | none=>rw[hg]at ho;cases ho
      | some b =>
       obtain ⟨hq,jk⟩:=hm.get hg;rw[hg]at ho;simp only at ho;split at ho
       ·rename_i cs gk
        split at ho
        ·rename_i hj
         obtain rfl:=Option.some.inj ho;refine Bv _ hq rfl ?_;simp only[g7,hx,hv];rw[if_pos hn];unfold AH.lf;rw[jk];simp only[gk];rw[if_pos hj,hm.same q hq];rfl
        ·cases ho
       ·cases ho
     ·cases h'
    ·cases h'
   case app s' z bytes x y =>
    have qy:s'≠s:=by simpa [PV] using hf
    have h':=h;simp only[g7]at h';split at h'
    ·rename_i ys hy
     have Qj:=hm.elems hy;split at h'
     ·rename_i hz
      split at h'
      ·rename_i q t z' len hx
       split at h'
       ·rename_i b hg
        obtain ⟨hq,jk⟩:=hm.get hg;split at h'
        ·rename_i hc
         obtain rfl:=Option.some.inj h';refine Bv _ hq rfl ?_;simp only[g7,Qj,hx,jk,AH.j6,hm.same q hq];rw[if_pos hz,if_pos hc]
        ·cases h'
       ·cases h'
      ·rename_i hx
       split at h'
       ·rename_i hc
        obtain rfl:=Option.some.inj h';refine Bv _ qy rfl ?_;simp only[g7,Qj,hx,AH.j6,hm.same s' qy];rw[if_pos hz,if_pos hc]
       ·cases h'
      ·cases h'
     ·cases h'
    ·cases h'
theorem iS (own:AH) (E:BU):E.res own=(E.valOf own,E.m8 own):=by cases E<;>rfl
theorem Ahi {C:Cl} {a:AI} {st j8:St} {s:Nat} {o2:AH} (hm:Mo s st.own o2) (hf:PV s a.op=true) (h:CN C a st=some j8) : ∃ yd,CN C a ⟨st.tm,o2⟩=some ⟨j8.tm,yd⟩/\Mo s j8.own yd/\yd s=o2 s:=by
 have hg:EY ⟨st.tm,o2⟩ a.guard=EY st a.guard:=by cases a.guard<;>rfl
 have bz:St.ev ⟨st.tm,o2⟩=st.ev:=by funext x;cases x<;>rfl
 unfold CN at h ⊢;rw[hg];cases zd:EY st a.guard with
 | none=>rw[zd]at h;cases h
 | some b =>
  rw[zd]at h;cases b with
  | false =>
   obtain rfl:=Option.some.inj h;refine ⟨o2,?_,?_,rfl⟩
   ·simp only
    cases a.dst<;>rfl
   ·rw[St.jj];exact hm
  | true =>
   simp only[Option.map_eq_some_iff]at h ⊢;obtain ⟨E,hE,rfl⟩:=h;obtain ⟨g1,g2,g3,g4⟩:=Wz hm hf hE;refine ⟨(E.lift s (o2 s)).m8 o2,⟨_,by rw[bz];exact g1,?_⟩,?_,g3⟩
   ·rw[SS,SS,iS,iS]
    simp only[g4];cases a.dst<;>rfl
   ·rw[SS,iS];exact g2
theorem vI {C:Cl} {s:Nat} : ∀ {l:List AI} {st j8:St} {o2:AH},Mo s st.own o2->(∀ a∈l,PV s a.op=true)->C4 C l st=some j8 -> ∃ yd,C4 C l ⟨st.tm,o2⟩=some ⟨j8.tm,yd⟩/\Mo s j8.own yd/\yd s=o2 s
 | [],st,j8,o2,hm,_,h=>by
  obtain rfl:=Option.some.inj h;exact ⟨o2,rfl,hm,rfl⟩
 | a::l,st,j8,o2,hm,hf,h=>by
  simp only[C4]at h ⊢;cases h1:CN C a st with
  | none=>rw[h1]at h;cases h
  | some s1 =>
   rw[h1]at h;obtain ⟨o3,e1,e2,e3⟩:=Ahi hm (hf a List.mem_cons_self) h1;obtain ⟨o4,f1,f2,f3⟩:=vI e2 (λ b hb=>hf b (List.mem_cons_of_mem _ hb)) h;rw[e1];exact ⟨o4,f1,f2,f3.trans e3⟩
def G1 (s:Nat):BK->Bool
 | .ops l _=>l.all λ a=>PV s a.op
 | .dr c _ ss=>G1 s c && !ss.contains s
 | .scope c=>G1 s c
 | .seq a b=>G1 s a&&G1 s b
 | .cond _ a b=>G1 s a&&G1 s b
 | .block _ c=>G1 s c
 | .loop c=>G1 s c
 | .skip=>true
 | .exit _=>true
 | .ret=>true
def JM (s:Nat):It->Bool
 | .g8 _=>true
 | .ki _ ss => !ss.contains s
 | .lp c=>G1 s c
 | .code c=>G1 s c
theorem nB {s:Nat} {o o2:AH} (hm:Mo s o o2) : ∀ {ss:List Nat},s ∉ ss->Mo s (o.drop ss) (o2.drop ss)/\(o2.drop ss) s=o2 s
 | [],_=>⟨hm,rfl⟩
 | q::r,h=>by
  have hq:q≠s:=λ e=>h (by simp [e])
  obtain ⟨h1,h2⟩:=nB hm (ss:=r) (λ e=>h (by simp [e]));simp only[AH.drop,hm.same q hq];exact ⟨h1.put hq _,by simp [AH.put,Ne.symm hq,h2]⟩
theorem dI {s id:Nat} : ∀ {k k':List It},k.all (JM s)=true->DJ id k=some k'->k'.all (JM s)=true
 | [],_,_,h=>by simp [DJ]at h
 | it::k,k',hk,h=>by
  simp only[List.all_cons,Bool.and_eq_true]at hk;cases it with
  | g8 i =>
   simp only[DJ]at h;split at h
   ·obtain rfl:=Option.some.inj h;exact hk.2
   ·exact dI hk.2 h
  | _ =>
   simp only[DJ]at h;exact dI hk.2 h
theorem JD {C:Cl} {s:Nat} : ∀ (n:Nat) {k:List It} {st j8:St} {o2:AH},Mo s st.own o2->k.all (JM s)=true->run C n k st=some j8 -> ∃ yd,run C n k ⟨st.tm,o2⟩=some ⟨j8.tm,yd⟩/\Mo s j8.own yd/\yd s=o2 s
 | 0,_,_,_,_,_,_,h=>by simp [run]at h
 | n+1,[],st,j8,o2,hm,_,h=>by
  simp only[run]at h;obtain rfl:=Option.some.inj h;exact ⟨o2,rfl,hm,rfl⟩
 | n+1,it::k,st,j8,o2,hm,hk,h=>by
  simp only[List.all_cons,Bool.and_eq_true]at hk;obtain ⟨hi,hk⟩:=hk;cases it with
  | g8 i=>simp only[run]at h ⊢;exact JD n hm hk h
  | ki ts ss =>
   simp only[run]at h ⊢;obtain ⟨h1,h2⟩:=nB (ss:=ss) hm (by simpa [JM] using hi);obtain ⟨o3,g1,g2,g3⟩:=JD n (st:=⟨bf st.tm ts,st.own.drop ss⟩) h1 hk h;exact ⟨o3,g1,g2,g3.trans h2⟩
  | lp c =>
   simp only[run]at h ⊢;exact JD n hm (by simp only[List.all_cons,Bool.and_eq_true];exact ⟨hi,hi,hk⟩) h
  | code c =>
   simp only[JM]at hi;cases c with
   | skip=>simp only[run]at h ⊢;exact JD n hm hk h
   | ops l d =>
    simp only[run]at h ⊢;cases h1:C4 C l st with
    | none=>rw[h1]at h;cases h
    | some s1 =>
     rw[h1]at h;obtain ⟨o3,e1,e2,e3⟩:=vI hm (λ a ha=>by simp only[G1,List.all_eq_true]at hi;exact hi a ha) h1;obtain ⟨o4,f1,f2,f3⟩:=JD n e2 hk h;rw[e1];exact ⟨o4,f1,f2,f3.trans e3⟩
   | dr c ts ss =>
    simp only[G1,Bool.and_eq_true]at hi;simp only[run]at h ⊢;exact JD n hm (by simp only[List.all_cons,Bool.and_eq_true,JM];exact ⟨hi.1,hi.2,hk⟩) h
   | scope c=>simp only[G1]at hi;simp only[run]at h ⊢;exact JD n hm (by simp only[List.all_cons,Bool.and_eq_true,JM];exact ⟨hi,hk⟩) h
   | seq a b =>
    simp only[G1,Bool.and_eq_true]at hi;simp only[run]at h ⊢;exact JD n hm (by simp only[List.all_cons,Bool.and_eq_true,JM];exact ⟨hi.1,hi.2,hk⟩) h
   | cond x a b =>
    simp only[G1,Bool.and_eq_true]at hi;simp only[run]at h ⊢;have bz:St.ev ⟨st.tm,o2⟩ x=st.ev x:=by cases x<;>rfl
    rw[bz];split at h
    ·exact JD n hm (by simp only[List.all_cons,Bool.and_eq_true,JM];exact ⟨hi.1,hk⟩) h
    ·exact JD n hm (by simp only[List.all_cons,Bool.and_eq_true,JM];exact ⟨hi.2,hk⟩) h
    ·cases h
   | block i c=>simp only[G1]at hi;simp only[run]at h ⊢;exact JD n hm (by simp only[List.all_cons,Bool.and_eq_true,JM];exact ⟨hi,trivial,hk⟩) h
   | loop c=>simp only[G1]at hi;simp only[run]at h ⊢;exact JD n hm (by simp only[List.all_cons,Bool.and_eq_true,JM];exact ⟨hi,hi,hk⟩) h
   | exit i =>
    simp only[run]at h ⊢;split at h
    ·rename_i k' iy
     exact JD n hm (dI hk iy) h
    ·cases h
   | ret=>simp only[run]at h ⊢;obtain rfl:=Option.some.inj h;exact ⟨o2,rfl,hm,rfl⟩
theorem AfT {s:Nat} {st:St} {o2:AH} (hm:Mo s st.own o2) (a:I0) (v:AV) (h:EU st a=some v):EU ⟨st.tm,o2⟩ a=some v:=by
 cases a with
 | tmp t=>exact h
 | cell t agg n =>
  simp only[EU]at h ⊢;cases ht:j4 st.tm t<;>rw[ht]at h<;>simp only at h ⊢ <;> first|exact h|skip
  rename_i q u i j;cases hl:st.own.kb q u i j n with
  | none=>rw[hl]at h;cases h
  | some cs=>rw[hl]at h;rw[hm.kb hl];exact h
theorem UB.of {L:Lib} {s f:Nat} {fn:AFn} (hL:L f=some fn) (hf:G1 s fn.body=true):UB L s f:=by
 intro n vs o0 o2 r o' hd hs h;cases n with
 | zero=>simp [DD]at h
 | succ n =>
  rw[S5,hL]at h ⊢;simp only at h ⊢;split at h
  ·rename_i hp
   rw[if_pos hp];cases h1:run (CM L n) n [.code fn.body] ⟨CY 0 vs,o0⟩ with
   | none=>rw[h1]at h;cases h
   | some st =>
    rw[h1]at h;simp only at h;obtain ⟨o3,g1,g2,g3⟩:=JD n (o2:=o2) ⟨hd,hs⟩ (by simp [JM,hf]) h1;simp only at g1;rw[g1];simp only;cases h2:fn.res.mapM (EU st) with
    | none=>rw[h2]at h;cases h
    | some ws =>
     rw[h2]at h;simp only[Option.some.injEq,Prod.mk.injEq]at h;obtain ⟨rfl,rfl⟩:=h;rw[KO (AfT g2) h2];have:=g2.eq
     rw[g3]at this;rw[<-this]
  ·cases h
end
end Go.g6

namespace Go.g6
variable {L:Lib}
def CI (N:Nat):AP->Bool
 | .t n=>Nat.blt n N
 | .c _=>true
def VY (N:Nat):DP->Bool
 | .q6 x=>CI N x
 | .ak _ _=>true
 | .pick c a b=>CI N c&&(CI N a&&CI N b)
 | .bin _ x y=>CI N x&&CI N y
 | .beq _ x y=>CI N x&&CI N y
 | .un _ x=>CI N x
 | .conv _ x=>CI N x
 | .box _ x=>CI N x
 | .alloc _ _=>true
 | .build _ ps=>ps.all λ p=>CI N p.2.2
 | .c7 _ _ ps=>ps.all (CI N)
 | .bn x _=>CI N x
 | .qf x _ _ _=>CI N x
 | .aq _ _ x i=>CI N x&&CI N i
 | .ld _ _ x=>CI N x
 | .ya _ _ x=>CI N x
 | .st _ x v=>CI N x&&CI N v
 | .mk _ _ _ _ l c=>CI N l&&CI N c
 | .jg _ x lo hi=>CI N x&&((lo.all (CI N))&&(hi.all (CI N)))
 | .ext x _=>CI N x
 | .len x=>CI N x
 | .mm _ xs=>xs.all (CI N)
 | .app _ _ _ x y=>CI N x&&CI N y
 | .call _ xs=>xs.all (CI N)
 | .c9 _ xs=>xs.all (CI N)
 | .ug _ x=>CI N x
 | .iw _ x=>CI N x
 | .bad=>true
 | .nm x=>CI N x
 | .gd x=>CI N x
 | .oy _ _ _ x y=>CI N x&&CI N y
 | .rj _ _ xs=>xs.all (CI N)
 | .q8 x xs=>CI N x&&xs.all (CI N)
 | .n7 _ xs=>xs.all (CI N)
 | .z0 _ _ xs=>xs.all (CI N)
 | .di _ _ xs=>xs.all (CI N)
 | .ou _ _ x v=>CI N x&&CI N v
def UJ (N:Nat) (a:AI):Bool:=(a.dst.all λ d=>Nat.blt d N)&&((a.guard.all λ g=>Nat.blt g.1 N)&&VY N a.op)
def HZ (N:Nat):BK->Bool
 | .skip=>true
 | .ops l _=>l.all (UJ N)
 | .dr c ts _=>HZ N c&&ts.all λ t=>Nat.blt t N
 | .scope c=>HZ N c
 | .seq a b=>HZ N a&&HZ N b
 | .cond c a b=>CI N c&&(HZ N a&&HZ N b)
 | .block _ c=>HZ N c
 | .loop c=>HZ N c
 | .exit _=>true
 | .ret=>true
def PZ (N:Nat):It->Bool
 | .code c=>HZ N c
 | .ki ts _=>ts.all λ t=>Nat.blt t N
 | .g8 _=>true
 | .lp c=>HZ N c
structure Gh (N:Nat) (G T T':Tm):Prop where
 lo : ∀ j,j<N->j4 T' j=j4 T j
 hi : ∀ j,N<=j->j4 T' j=j4 G j
variable {N:Nat} {G:Tm}
theorem QZ {a b:Nat}:Nat.blt a b=true↔a<b:=by simp [Nat.blt];omega
theorem Gh.ev {st:St} {T':Tm} {o:AH} (h:Gh N G st.tm T') {x:AP} (hx:CI N x=true):St.ev ⟨T',o⟩ x=st.ev x:=by
 cases x with
 | t n=>exact h.lo n (QZ.1 hx)
 | c v=>rfl
theorem RK {f g:AP->AV} {xs:List AP} (h : ∀ x,CI N x=true->f x=g x) (hx:xs.all (CI N)=true):xs.map f=xs.map g:=by
 apply List.map_congr_left;intro x hm;exact h x (List.all_eq_true.1 hx x hm)
theorem Yw {C:Cl} {b9:List Nat} {ρ ρ':AP->AV} {own:AH} (h : ∀ x,CI N x=true->ρ' x=ρ x) : ∀ (op:DP),VY N op=true->g7 C b9 ρ' own op=g7 C b9 ρ own op:=by
 intro op m9;cases op;case build zero ps =>
  have:(ps.map λ p=>(p.1,p.2.1,ρ' p.2.2))=ps.map λ p=>(p.1,p.2.1,ρ p.2.2):=by
   apply List.map_congr_left;intro p hm;rw[h _ (List.all_eq_true.1 m9 p hm)]
  simp only[g7,this]
 case c7 s a9 ps =>
  have:ps.mapM (λ x=>cellsOf (ρ' x))=ps.mapM (λ x=>cellsOf (ρ x)):=by
   have ve:ps.all (CI N)=true:=m9;clear m9;induction ps with
   | nil=>rfl
   | cons p r ih =>
    simp only[List.all_cons,Bool.and_eq_true]at ve;simp only[List.mapM_cons,h _ ve.1,ih ve.2]
  simp only[g7,this]
 case mm m xs=>simp only[g7,RK h m9]
 case call f xs=>simp only[g7,RK h m9]
 case c9 f xs=>simp only[g7,RK h m9]
 case rj p f xs =>
  have:xs.mapM (λ x=>GS (ρ' x))=xs.mapM (λ x=>GS (ρ x)):=by
   have ve:xs.all (CI N)=true:=m9;clear m9;induction xs with
   | nil=>rfl
   | cons p r ih =>
    simp only[List.all_cons,Bool.and_eq_true]at ve;simp only[List.mapM_cons,h _ ve.1,ih ve.2]
  simp only[g7,this]
 case n7 f xs=>simp only[g7,RK h m9]
 case z0 s f xs=>simp only[g7,RK h m9]
 case di s f xs=>simp only[g7,RK h m9]
 case q8 x xs =>
  simp only[VY,Bool.and_eq_true]at m9;simp only[g7,RK h m9.2,h _ m9.1]
 case jg a9 x lo hi =>
  simp only[VY,Bool.and_eq_true]at m9;obtain ⟨h1,h2,h3⟩:=m9;cases lo<;>cases hi<;>simp only[Option.all_some,Option.all_none]at h2 h3<;>simp only[g7,h _ h1,h _,h2,h3]
 all_goals (simp only[VY,Bool.and_eq_true]at m9;simp only[g7,h _,m9])
theorem Gh.dst {T T':Tm} (h:Gh N G T T') {d:Nat} (hd:d<N) (v:AV):Gh N G (kg T d v) (kg T' d v):=by
 constructor
 ·intro j hj
  rw[WN,WN,h.lo j hj]
 ·intro j hj
  rw[WN,h.hi j hj,if_neg (by omega)]
theorem Gh.nv {T T':Tm} {o:AH} (h:Gh N G T T') {d:Option Nat} (hd:(d.all λ d=>Nat.blt d N)=true) (v:AV):((⟨T',o⟩:St).dst d v).own=((⟨T,o⟩:St).dst d v).own/\Gh N G ((⟨T,o⟩:St).dst d v).tm ((⟨T',o⟩:St).dst d v).tm:=by
 cases d with
 | none=>exact ⟨rfl,h⟩
 | some d=>exact ⟨rfl,h.dst (QZ.1 hd) v⟩
theorem Ahh {C:Cl} {a:AI} (ha:UJ N a=true) {T T':Tm} {o:AH} (h:Gh N G T T') {s':St} (hs:CN C a ⟨T',o⟩=some s') : ∃ s,CN C a ⟨T,o⟩=some s/\s'.own=s.own/\Gh N G s.tm s'.tm:=by
 simp only[UJ,Bool.and_eq_true]at ha;obtain ⟨h1,h2,h3⟩:=ha;have hg:EY ⟨T',o⟩ a.guard=EY ⟨T,o⟩ a.guard:=by
  cases hgg:a.guard with
  | none=>rfl
  | some g =>
   rw[hgg]at h2;simp only[EY,h.lo _ (QZ.1 h2)]
 have he:=Yw (C:=C) (b9:=a.b9) (own:=o) (ρ:=St.ev ⟨T,o⟩) (ρ':=St.ev ⟨T',o⟩) (λ x hx=>Gh.ev (st:=⟨T,o⟩) h hx) a.op h3;unfold CN at hs ⊢;rw[hg,he]at hs;cases zd:EY ⟨T,o⟩ a.guard with
 | none=>rw[zd]at hs;cases hs
 | some b =>
  rw[zd]at hs;cases b with
  | false =>
   simp only[Option.some.injEq]at hs ⊢;subst hs;exact ⟨_,rfl,h.nv h1 _⟩
  | true =>
   simp only at hs ⊢;cases Pf:g7 C a.b9 (St.ev ⟨T,o⟩) o a.op with
   | none=>rw[Pf]at hs;cases hs
   | some e =>
    rw[Pf]at hs;simp only[Option.map_some,Option.some.injEq]at hs ⊢;subst hs;refine ⟨_,rfl,?_⟩;cases e with
    | val v=>exact h.nv h1 v
    | new s b v=>exact ⟨rfl,(h.nv (o:=o) h1 _).2⟩
    | vh s b v=>exact ⟨rfl,(h.nv (o:=o) h1 _).2⟩
    | dp v o'=>exact ⟨rfl,(h.nv (o:=o) h1 _).2⟩
    | v7 s x=>exact ⟨rfl,(h.nv (o:=o) h1 _).2⟩
    | uo s x v=>exact ⟨rfl,(h.nv (o:=o) h1 _).2⟩
    | Bo s v o'=>exact ⟨rfl,(h.nv (o:=o) h1 _).2⟩
theorem vH {C:Cl} : ∀ {l:List AI},l.all (UJ N)=true -> ∀ {T T':Tm} {o:AH},Gh N G T T' -> ∀ {s':St},C4 C l ⟨T',o⟩=some s' -> ∃ s,C4 C l ⟨T,o⟩=some s/\s'.own=s.own/\Gh N G s.tm s'.tm
 | [],_,T,T',o,h,s',hs=>by
  simp only[C4,Option.some.injEq]at hs;subst hs;exact ⟨_,rfl,rfl,h⟩
 | a::l,ha,T,T',o,h,s',hs=>by
  simp only[List.all_cons,Bool.and_eq_true]at ha;simp only[C4]at hs;cases h1:CN C a ⟨T',o⟩ with
  | none=>rw[h1]at hs;cases hs
  | some s1 =>
   rw[h1]at hs;obtain ⟨s2,e1,e2,e3⟩:=Ahh ha.1 h h1;obtain ⟨T1,o1⟩:=s1;obtain ⟨T2,o2⟩:=s2;simp only at e2 e3;subst e2;obtain ⟨s3,f1,f2,f3⟩:=vH ha.2 e3 hs;exact ⟨s3,by simp only[C4,e1,f1],f2,f3⟩
theorem VI {id:Nat} : ∀ {k k':List It},k.all (PZ N)=true->DJ id k=some k'->k'.all (PZ N)=true
 | [],_,_,h=>by simp [DJ]at h
 | it::k,k',hk,h=>by
  simp only[List.all_cons,Bool.and_eq_true]at hk;cases it with
  | g8 i =>
   simp only[DJ]at h;split at h
   ·cases h;exact hk.2
   ·exact VI hk.2 h
  | code c=>simp only[DJ]at h;exact VI hk.2 h
  | ki a b=>simp only[DJ]at h;exact VI hk.2 h
  | lp c=>simp only[DJ]at h;exact VI hk.2 h
theorem IR {C:Cl} : ∀ (n:Nat) {k:List It},k.all (PZ N)=true -> ∀ {T T':Tm} {o:AH},Gh N G T T' -> ∀ {s':St},run C n k ⟨T',o⟩=some s' -> ∃ s,run C n k ⟨T,o⟩=some s/\s'.own=s.own/\Gh N G s.tm s'.tm
 | 0,k,_,T,T',o,_,s',hs=>by simp [run]at hs
 | n+1,[],_,T,T',o,h,s',hs=>by
  simp only[run,Option.some.injEq]at hs ⊢;subst hs;exact ⟨_,rfl,rfl,h⟩
 | n+1,.g8 _::k,hk,T,T',o,h,s',hs=>by
  simp only[List.all_cons,Bool.and_eq_true]at hk;simp only[run]at hs ⊢;exact IR n hk.2 h hs
 | n+1,.ki ts ss::k,hk,T,T',o,h,s',hs=>by
  simp only[List.all_cons,Bool.and_eq_true]at hk;simp only[run]at hs ⊢;refine IR n hk.2 ⟨λ j hj => ?_,λ j hj => ?_⟩ hs
  ·rw[TZ,TZ,h.lo j hj]
  ·rw[TZ,h.hi j hj,if_neg]
   intro hc;have:=List.all_eq_true.1 hk.1 j (by simpa using hc)
   have:=QZ.1 this
   omega
 | n+1,.lp c::k,hk,T,T',o,h,s',hs=>by
  simp only[run]at hs ⊢;have iy:=hk;simp only[List.all_cons,Bool.and_eq_true]at hk;exact IR n (by simp only[List.all_cons,Bool.and_eq_true];exact ⟨hk.1,hk.1,hk.2⟩) h hs
 | n+1,.code c::k,hk,T,T',o,h,s',hs=>by
  simp only[List.all_cons,Bool.and_eq_true]at hk;obtain ⟨hc,hk⟩:=hk;cases c with
  | skip=>simp only[run]at hs ⊢;exact IR n hk h hs
  | ops l d =>
   simp only[run]at hs ⊢;cases h1:C4 C l ⟨T',o⟩ with
   | none=>rw[h1]at hs;cases hs
   | some s1 =>
    rw[h1]at hs;obtain ⟨s2,e1,e2,e3⟩:=vH (show l.all (UJ N)=true from hc) h h1;obtain ⟨T1,o1⟩:=s1;obtain ⟨T2,o2⟩:=s2;simp only at e2 e3;subst e2;rw[e1];exact IR n hk e3 hs
  | dr c ts ss =>
   simp only[run]at hs ⊢;simp only[PZ,HZ,Bool.and_eq_true]at hc;exact IR n (by simp only[List.all_cons,Bool.and_eq_true];exact ⟨hc.1,hc.2,hk⟩) h hs
  | scope c =>
   simp only[run]at hs ⊢;exact IR n (by simp only[List.all_cons,Bool.and_eq_true];exact ⟨hc,hk⟩) h hs
  | seq a b =>
   simp only[run]at hs ⊢;simp only[PZ,HZ,Bool.and_eq_true]at hc;exact IR n (by simp only[List.all_cons,Bool.and_eq_true];exact ⟨hc.1,hc.2,hk⟩) h hs
  | cond x a b =>
   simp only[PZ,HZ,Bool.and_eq_true]at hc;simp only[run,Gh.ev (st:=⟨T,o⟩) h hc.1]at hs ⊢;cases hx:St.ev ⟨T,o⟩ x<;>rw[hx]at hs<;>try (simp at hs;done)
   rename_i q;cases q
   ·exact IR n (by simp only[List.all_cons,Bool.and_eq_true];exact ⟨hc.2.2,hk⟩) h hs
   ·exact IR n (by simp only[List.all_cons,Bool.and_eq_true];exact ⟨hc.2.1,hk⟩) h hs
  | block id c =>
   simp only[run]at hs ⊢;exact IR n (by simp only[List.all_cons,Bool.and_eq_true];exact ⟨hc,rfl,hk⟩) h hs
  | loop c =>
   simp only[run]at hs ⊢;exact IR n (by simp only[List.all_cons,Bool.and_eq_true];exact ⟨hc,hc,hk⟩) h hs
  | exit id =>
   simp only[run]at hs ⊢;cases he:DJ id k with
   | none=>rw[he]at hs;cases hs
   | some k' =>
    rw[he]at hs;exact IR n (VI hk he) h hs
  | ret =>
   simp only[run,Option.some.injEq]at hs ⊢;subst hs;exact ⟨_,rfl,rfl,h⟩
def GJ (N:Nat):Tm->Tm
 | []=>[]
 | (i,v)::r=>(N+i,v)::GJ N r
def gh (N:Nat):Tm->Tm
 | []=>[]
 | (i,v)::r=>bif Nat.ble N i then (Nat.sub i N,v)::gh N r else gh N r
theorem iN (N j:Nat) : ∀ T:Tm,j4 (GJ N T) (N+j)=j4 T j
 | []=>rfl
 | (i,v)::r=>by
  have ih:=iN N j r;simp only[GJ,j4,ih];by_cases h:j=i
  ·simp [h]
  ·rw[if_neg h,if_neg (by omega)]
theorem iO {N j:Nat} (hj:j<N) : ∀ T:Tm,j4 (GJ N T) j = .any
 | []=>rfl
 | (i,v)::r=>by
  simp only[GJ,j4,iO hj r];rw[if_neg (by omega)]
theorem iL (N j:Nat) : ∀ T:Tm,j4 (gh N T) j=j4 T (N+j)
 | []=>rfl
 | (i,v)::r=>by
  have ih:=iL N j r;simp only[gh];cases h:Nat.ble N i
  ·have h1 : ¬ N<=i:=λ e=>by rw[Nat.ble_eq_true_of_le e]at h;cases h
   simp only[cond,j4,ih];rw[if_neg (by omega)]
  ·have h1:=Nat.le_of_ble_eq_true h
   simp only[cond,j4,ih];by_cases h2:j=i-N
   ·rw[if_pos (show j=Nat.sub i N from h2),if_pos (by omega)]
   ·rw[if_neg (show ¬ j=Nat.sub i N from h2),if_neg (by omega)]
def LU (f:AV->AV):Tm->Tm
 | []=>[]
 | (i,v)::r=>(i,f v)::LU f r
theorem J8 {f:AV->AV} (hf:f .any = .any) (j:Nat) : ∀ T:Tm,j4 (LU f T) j=f (j4 T j)
 | []=>hf.symm
 | (i,v)::r=>by
  simp only[LU,j4,J8 hf j r];by_cases h:j=i<;>simp [h]
theorem dX (f:AV->AV) : ∀ (i:Nat) (vs:List AV),CY i (vs.map f)=LU f (CY i vs)
 | _,[]=>rfl
 | i,v::r=>by simp only[List.map_cons,CY,LU,dX f (i+1) r]
theorem WL (j:Nat) (b:Tm) : ∀ a:Tm,((a.any λ p=>p.1 == j)=true/\j4 (a++b) j=j4 a j)\/((a.any λ p=>p.1 == j)=false/\j4 (a++b) j=j4 b j)
 | []=>Or.inr ⟨rfl,rfl⟩
 | (i,v)::r=>by
  by_cases h:j=i
  ·subst h
   exact Or.inl (by simp [j4])
  ·have h' : ¬ i=j:=λ e=>h e.symm
   rcases WL j b r with ⟨h1,h2⟩|⟨h1,h2⟩
   ·exact Or.inl ⟨by rw[List.any_cons,h1,Bool.or_true],by simp only[List.cons_append,j4,if_neg h,h2]⟩
   ·exact Or.inr ⟨by rw[List.any_cons,h1,Bool.or_false];simpa using h',by simp only[List.cons_append,j4,if_neg h,h2]⟩
theorem dW (j:Nat) : ∀ (i:Nat) (vs:List AV),((CY i vs).any λ p=>p.1 == j)=true->j<i+vs.length
 | _,[],h=>by simp [CY]at h
 | i,v::r,h=>by
  simp only[CY,List.any_cons,Bool.or_eq_true,beq_iff_eq]at h;rcases h with h|h
  ·simp;omega
  ·have:=dW j (i+1) r h
   simp;omega
theorem iM (j:Nat) : ∀ (i:Nat) (vs:List AV),((CY i vs).any λ p=>p.1 == j)=false->j4 (CY i vs) j = .any
 | _,[],_=>rfl
 | i,v::r,h=>by
  simp only[CY,List.any_cons,Bool.or_eq_false_iff,beq_eq_false_iff_ne]at h;simp only[CY,j4];rw[if_neg λ e=>h.1 e.symm,iM j (i+1) r h.2]
theorem K1 (σ:E7):BJ σ .any = .any:=rfl
def P9 (tm:Tm):List I0->Option (List AV)
 | []=>some []
 | .tmp t::r=>match JB (tg tm t),P9 tm r with
  | some v,some vs=>some (v::vs)
  | _,_=>none
 | .cell _ _ _::_=>none
def V5 (N:Nat):List I0->Bool
 | []=>true
 | .tmp t::r=>Nat.blt t N&&V5 N r
 | .cell _ _ _::_=>false
def jY (N:Nat) (fn:AFn) (tm:Tm) (K:AV->Mem->Prop) (cz:Tm) (M':Mem):Prop:=gh N cz=tm /\ ∃ rs,P9 cz fn.res=some rs/\K (IP rs) M'
theorem AfU {σ:E7} {v u:AV} (h:JB v=some u):u=v/\BJ σ v=BM σ v/\JB (BJ σ v)=some (BJ σ v):=by
 cases v<;>simp [JB]at h<;>subst h<;>exact ⟨rfl,rfl,rfl⟩
theorem gN {σ:E7} {cz:Tm} {M:Mem} {s s':St} (hr:RX σ cz M s') (pg : ∀ j,j<N->j4 s'.tm j=j4 s.tm j) : ∀ {res:List I0} {rs:List AV},V5 N res=true->P9 cz res=some rs->res.mapM (EU s)=some (rs.map (BM σ)) /\ ∀ v∈rs,BJ σ v=BM σ v
 | [],rs,_,h=>by
  simp only[P9,Option.some.injEq]at h;subst h;exact ⟨rfl,by simp⟩
 | .cell _ _ _::_,_,_,h=>by simp [P9]at h
 | .tmp t::r,rs,hl,h=>by
  simp only[V5,Bool.and_eq_true]at hl;simp only[P9]at h;cases h1:JB (tg cz t) with
  | none=>rw[h1]at h;simp at h
  | some v =>
   cases h2:P9 cz r with
   | none=>rw[h1,h2]at h;simp at h
   | some vs =>
    rw[h1,h2]at h;simp only[Option.some.injEq]at h;subst h;obtain ⟨i1,i2⟩:=gN hr pg hl.2 h2;obtain ⟨rfl,j2,j3⟩:=AfU (σ:=σ) h1;have:j4 s.tm t=BJ σ (tg cz t):=by
     rcases hr.tm t with e|e
     ·rw[e]at h1;cases h1
     ·rw[<-pg t (QZ.1 hl.1),e]
    refine ⟨?_,?_⟩
    ·rw[j2]at j3 this
     simp only[List.mapM_cons,EU,this,j3,i1,List.map_cons];rfl
    ·intro v hv
     simp only[List.mem_cons]at hv;rcases hv with rfl|hv
     ·exact j2
     ·exact i2 v hv
theorem tK {σ:E7} {rs:List AV} (h : ∀ v∈rs,BJ σ v=BM σ v):IP (rs.map (BM σ))=BJ σ (IP rs):=by
 match rs,h with
 | [],_=>rfl
 | [v],h=>exact (h v (by simp)).symm
 | _::_::_,_=>rfl
theorem E2 {f:Nat} {fn:AFn} {vs:List AV} {tm:Tm} {M:Mem} {K:AV->Mem->Prop} (N:Nat) (hL:L f=some fn) (hp:Nat.beq vs.length fn.de=true) (hN:(Nat.ble fn.de N&&(HZ N fn.body&&V5 N fn.res))=true)
  (h:AA L [.code fn.body] (CY 0 vs++GJ N tm) M (jY N fn tm K)):A6 L f vs tm M K:=by
 intro σ own hs;simp only[Bool.and_eq_true]at hN;obtain ⟨n1,n2,n3⟩:=hN;have n1:=Nat.le_of_ble_eq_true n1;have hp:vs.length=fn.de:=Nat.eq_of_beq_eq_true hp;have Hg:RX σ (CY 0 vs++GJ N tm) M ⟨LU (BJ σ) (CY 0 vs++GJ N tm),own⟩:=⟨λ j=>Or.inr (by rw[K3];exact J8 (K1 σ) j _),hs⟩;obtain ⟨n,c,s',hr,σ',cz,M',hR,hg,rs,Ed,hk⟩:=h σ _ Hg;have Ln:Gh N (LU (BJ σ) (GJ N tm)) (CY 0 (vs.map (BJ σ))) (LU (BJ σ) (CY 0 vs++GJ N tm)):=by
  constructor
  ·intro j hj
   rw[dX,J8 (K1 σ),J8 (K1 σ)];rcases WL j (GJ N tm) (CY 0 vs) with ⟨_,e⟩|⟨hn,e⟩
   ·rw[e]
   ·rw[e,iO hj,iM j 0 vs hn]
  ·intro j hj
   rw[J8 (K1 σ),J8 (K1 σ)];rcases WL j (GJ N tm) (CY 0 vs) with ⟨hn,e⟩|⟨_,e⟩
   ·have:=dW j 0 vs hn
    omega
   ·rw[e]
 obtain ⟨s,r1,r2,r3⟩:=IR n (by simp [PZ,n2]) Ln hr;obtain ⟨i1,i2⟩:=gN (s:=s) hR r3.lo n3 Ed;refine ⟨IP rs,s.own,σ',M',GY.intro hL (by simpa using hp) ⟨n,c,s,r1,?_,rfl⟩,?_,?_,hk⟩
 ·rw[i1,Option.map_some,tK i2]
 ·rw[<-r2];exact hR.sat
 ·intro j
  have e1:tg tm j=tg cz (N+j):=by rw[K3,K3,<-hg,iL]
  rcases hR.tm (N+j) with e|e
  ·rw[e1,e];rfl
  ·rw[e1,<-e,r3.hi (N+j) (by omega),J8 (K1 σ),iN,<-K3,e1]
theorem kC {α:Type} {enc:α->List AV} {l:List α} {i:Nat} {vs:List AV} {K:List (List AV)->Prop} (n:Nat) (e:α) (hn:i=n) (he:vs=enc e) (hz : ∀ x,(enc x).length=vs.length) (hi:n<l.length) (h:K ((l.set n e).map enc)):BG (l.map enc) i 0 vs K:=by
 subst hn;exact zU e he hz hi h
theorem G9 {x:Int} {len:Nat} {K:Nat->Nat->Prop} (h:Nat) (hx:x=h) (hl:h<=len) (hk:K 0 h):B1 none (some x) len K:=⟨0,h,rfl,⟨by omega,by omega,by omega⟩,by omega,hk⟩
theorem xX {x:Int} {len:Nat} {K:Nat->Nat->Prop} (a:Nat) (hx:x=a) (hl:a<=len) (hk:K a len):B1 (some x) none len K:=⟨a,len,⟨by omega,by omega⟩,rfl,by omega,hk⟩
end Go.g6

namespace Go.g6
section
variable {K:AV->Prop} {a b:Nat} {k':IntKind}
theorem wrap_u32 (n:Nat):IntKind.u32.wrap (n:Int)=((n%4294967296:Nat):Int):=by rw[IntKind.wrap_u32];omega
theorem AhJ (n:Nat):IntKind.u64.wrap (n:Int)=((n%18446744073709551616:Nat):Int):=by
 simp [IntKind.wrap,IntKind.bits,IntKind.signed]
theorem F5 (h:a+b<=18446744073709551615) (hk:K (.int .u64 ((a+b:Nat):Int))):AD .add .u64 (a:Int) .u64 (b:Int) K :=
 ⟨_,by simp only[DN,if_true];rw[IntWalk.u64_in _ (by omega)],by simpa using hk⟩
theorem I3 (h:b<=a) (h2:a<=18446744073709551615) (hk:K (.int .u64 ((a-b:Nat):Int))):AD .sub .u64 (a:Int) .u64 (b:Int) K :=
 ⟨_,by simp only[DN,if_true];rw[IntWalk.u64_in _ (by omega)],by rw[show (a:Int)-b=((a-b:Nat):Int) by omega];exact hk⟩
theorem W7 (h:b<=18446744073709551616) (hk:K (.int .u64 ((EP a b:Nat):Int))):AD .sub .u64 (a:Int) .u64 (b:Int) K :=
 W2 (v := .int .u64 (IntKind.u64.wrap ((a:Int)-b))) (by simp only[DN,if_true]) (by
  have e:IntKind.u64.wrap ((a:Int)-b)=((EP a b:Nat):Int):=by
   rw[SF];simp only[IntKind.wrap,IntKind.bits,IntKind.signed];simp;omega
  rw[e];exact hk)
theorem OK (h:a*b<=18446744073709551615) (hk:K (.int .u64 ((a*b:Nat):Int))):AD .mul .u64 (a:Int) .u64 (b:Int) K :=
 ⟨_,by simp only[DN,if_true];rw[<-Int.natCast_mul,IntWalk.u64_in _ (by omega)],hk⟩
theorem W5 (h:0<b) (h2:a<=18446744073709551615) (hk:K (.int .u64 ((a/b:Nat):Int))):AD .quo .u64 (a:Int) .u64 (b:Int) K:=by
 refine ⟨_,by simp only[DN];rw[if_pos ⟨trivial,by omega⟩],?_⟩;rw[IntWalk.u64_quo _ _ ⟨by omega,by omega,by omega⟩,<-Int.natCast_ediv];exact hk
theorem UE (h:0<b) (hk:K (.int .u64 ((a%b:Nat):Int))):AD .rem .u64 (a:Int) .u64 (b:Int) K:=by
 refine ⟨_,by simp only[DN];rw[if_pos ⟨trivial,by omega⟩],?_⟩;rw[IntWalk.rem_in _ _ (by omega),<-Int.natCast_emod];exact hk
theorem AgZ {k:IntKind} {n:Nat} (hn:n<=k.bits):DN .shl k (a:Int) k' (n:Int)=some (.int k (k.wrap ((a*2^n:Nat):Int))):=by
 simp only[DN];rw[if_neg (by omega),Int.toNat_natCast,Nat.min_eq_left hn];simp
theorem Ag1 {k:IntKind} {n:Nat} (hn:n<=k.bits):DN .shr k (a:Int) k' (n:Int)=some (.int k ((a/2^n:Nat):Int)):=by
 simp only[DN];rw[if_neg (by omega),Int.toNat_natCast,Nat.min_eq_left hn,Int.fdiv_eq_ediv_of_nonneg _ (Int.le_of_lt (Int.pow_pos (by omega)))];simp
theorem aV {k:IntKind} {n:Nat} (hn:n<=k.bits) (hk:K (.int k (k.wrap ((a*2^n:Nat):Int)))):AD .shl k (a:Int) k' (n:Int) K:=⟨_,AgZ hn,hk⟩
theorem OM {k:IntKind} {n:Nat} (hn:n<=k.bits) (hk:K (.int k ((a/2^n:Nat):Int))):AD .shr k (a:Int) k' (n:Int) K:=⟨_,Ag1 hn,hk⟩
theorem NY (h:a<=4294967295) (hk:K (.int .u64 ((a*4294967296:Nat):Int))):AD .shl .u64 (a:Int) k' 32 K:=by
 refine aV (n:=32) (by decide) ?_;rw[AhJ,show a*2^32%18446744073709551616=a*4294967296 by omega];exact hk
theorem FH (hk:K (.int .u64 ((a/4294967296:Nat):Int))):AD .shr .u64 (a:Int) k' 32 K:=OM (n:=32) (by decide) hk
theorem W6 (hk:K (.int .u64 ((a/9223372036854775808:Nat):Int))):AD .shr .u64 (a:Int) k' 63 K:=OM (n:=63) (by decide) hk
theorem yZ (hk:K (.int .u64 ((a/4:Nat):Int))):AD .shr .u64 (a:Int) k' 2 K:=OM (n:=2) (by decide) hk
theorem yY (hk:K (.int .u32 ((a/65536:Nat):Int))):AD .shr .u32 (a:Int) k' 16 K:=OM (n:=16) (by decide) hk
theorem zA (hk:K (.int .u32 ((a/256:Nat):Int))):AD .shr .u32 (a:Int) k' 8 K:=OM (n:=8) (by decide) hk
theorem yX (hk:K (.int .u32 ((a/2:Nat):Int))):AD .shr .u32 (a:Int) k' 1 K:=OM (n:=1) (by decide) hk
theorem gB (w n:Nat):(BitVec.ofInt w (n:Int)).toNat=n%2^w:=by rw[BitVec.toNat_ofInt];omega
theorem Afo {n x y:Nat} (hx:x%2^n=0) (hy:y<2^n):x ||| y=x+y:=by
 have e:x=2^n*(x/2^n):=by have:=Nat.mod_add_div x (2^n);omega
 rw[e,<-Nat.two_pow_add_eq_or_of_lt hy]
theorem aU {k:IntKind} (n:Nat) (hx:a%2^n=0) (hy:b<2^n) (h:a+b<2^k.bits) (hw:k.wrap ((a+b:Nat):Int)=((a+b:Nat):Int)) (hk:K (.int k ((a+b:Nat):Int))):AD .or k (a:Int) k (b:Int) K:=by
 refine W2 (v := .int k (k.wrap (BitVec.ofInt k.bits (a:Int) ||| BitVec.ofInt k.bits (b:Int)).toNat)) (by simp only[DN,if_true]) ?_;rw[BitVec.toNat_or,gB,gB,Nat.mod_eq_of_lt (by omega),Nat.mod_eq_of_lt (by omega),Afo hx hy,hw];exact hk
theorem OL (h:a%4294967296=0/\b<4294967296/\a+b<=18446744073709551615) (hk:K (.int .u64 ((a+b:Nat):Int))):AD .or .u64 (a:Int) .u64 (b:Int) K :=
 aU 32 h.1 h.2.1 (show a+b<18446744073709551616 by omega) (IntWalk.u64_in _ (by omega)) hk
theorem jT (h:a<=18446744073709551615) (hk:K (.int .u64 ((a%4294967296:Nat):Int))):AD .and .u64 (a:Int) .u64 4294967295 K:=by
 refine W2 (v := .int .u64 (IntKind.u64.wrap (BitVec.ofInt IntKind.u64.bits (a:Int) &&& BitVec.ofInt IntKind.u64.bits 4294967295).toNat)) (by simp only[DN,if_true]) ?_;rw[BitVec.toNat_and,gB,show (BitVec.ofInt IntKind.u64.bits 4294967295).toNat=2^32-1 by decide,Nat.and_two_pow_sub_one_eq_mod,show a%2^IntKind.u64.bits=a from Nat.mod_eq_of_lt (show a<18446744073709551616 by omega),IntWalk.u64_in _ (by omega)];exact hk
theorem jS (hk:K (.int .u32 (((a+b)%4294967296:Nat):Int))):AD .add .u32 (a:Int) .u32 (b:Int) K :=
 W2 (v := .int .u32 (IntKind.u32.wrap ((a:Int)+b))) (by simp only[DN,if_true]) (by rw[<-Int.natCast_add,wrap_u32];exact hk)
end
section
variable {K:Int->Prop} {n:Nat}
theorem jH (h:n<=18446744073709551615) (hk:K (n:Int)):A4 .u64 (n:Int) K:=T7 (IntWalk.u64_in _ (by omega)) hk
theorem EH (h:n<=4294967295) (hk:K (n:Int)):A4 .u32 (n:Int) K:=T7 (IntWalk.u32_in _ (by omega)) hk
theorem FU (hk:K ((n%4294967296:Nat):Int)):A4 .u32 (n:Int) K:=⟨by rw[wrap_u32];exact hk⟩
theorem yD (h:n<=255) (hk:K (n:Int)):A4 .u8 (n:Int) K:=T7 (IntWalk.u8_in _ (by omega)) hk
end
theorem XD {tb:List Nat} {n v:Nat} {K:Nat->Prop} (hv:tb[n]? = some v) (hk:K v):QV tb (n:Int) K:=⟨by omega,v,by rw[Int.toNat_natCast];exact hv,hk⟩
abbrev AL (n:Nat):List AV:=[.int .u32 (n:Int)]
theorem CS (l:List Nat):GL (l.map AL):=XX (λ_=>by simp [CJ,A7]) l
section
variable {l:List Nat} {K:List AV->Prop}
theorem W8 {n:Nat} (hD:A1 l) (hn:n<l.length) (h : ∀ e,l[n]? = some e->e<4294967296->K (AL e)):AX (l.map AL) (n:Int) 1 K :=
 zK hn (λ_=>rfl) λ e he=>h e he (hD.at he)
theorem PH {a:Int} (hD:A1 l) (hn:0<=a/\a<l.length) (h : ∀ e,l[a.toNat]? = some e->e<4294967296->K (AL e)):AX (l.map AL) a 1 K :=
 W9 hn (λ_=>rfl) λ e he=>h e he (hD.at he)
theorem jR {i:Nat} (hD:A1 l) (hi:i<l.length) (h : ∀ e,l[i]? = some e->e<4294967296->K (AL e)):A9 (l.map AL) (0+((i:Int)).toNat) 0 1 K :=
 DQ (f:=AL) hi (λ_=>rfl) λ e he=>h e he (hD.at he)
theorem QQ {i:Int} (hD:A1 l) (hi:0<=i/\i<l.length) (h : ∀ e,l[i.toNat]? = some e->e<4294967296->K (AL e)):A9 (l.map AL) (0+i.toNat) 0 1 K :=
 yW (f:=AL) hi (λ_=>rfl) λ e he=>h e he (hD.at he)
theorem FC {i v:Nat} {KK:List (List AV)->Prop} (hi:i<l.length) (h:KK ((l.set i v).map AL)):BG (l.map AL) (0+((i:Int)).toNat) 0 [.int .u32 (v:Int)] KK:=FJ (enc:=AL) v rfl (λ_=>rfl) hi h
theorem XC {i v:Nat} {KK:List (List AV)->Prop} (n:Nat) (hn:i=n) (hi:n<l.length) (h:KK ((l.set n v).map AL)):BG (l.map AL) i 0 [.int .u32 (v:Int)] KK:=kC (enc:=AL) n v hn rfl (λ_=>rfl) hi h
end
end Go.g6
namespace Go.g6
variable {L:Lib}
theorem Ev.xE {f:Nat} {fn:AFn} {vs:List AV} {P:AV->Prop} (hL:L f=some fn) (hp:Nat.beq vs.length fn.de=true) (hd:LC vs=true) (h:AA L [.code fn.body] (CY 0 vs) [] (λ tm M => ∃ r,PI fn r tm M/\P r)) (hs:fn.ry=false:=by rfl) : ∃ r,Ev L f vs r/\P r:=by
 obtain ⟨n,c,j8,hr,σ,tm,M,hR,r,hq,hP⟩:=h (λ_ _=>(0,0)) ⟨CY 0 vs,AH.emp⟩ ⟨λ j=>Or.inr (by rw[K3];exact X4 hd j),⟨(λ_ _ _ e=>by cases e),(λ_ _ _ e=>by simp [c5,c8]at e),(λ_ _ _ e=>by simp [c5,c8]at e),(λ_ _ _ _ _ _ e=>by simp [c5,c8]at e),(λ_ _ _ e=>by simp [c5,c8]at e)⟩⟩;exact ⟨r,Ev.fwd hL (BQ.1 hp) ⟨n,c,j8,hr,jZ hR hq⟩ hs,hP⟩
def TN:DP->Bool
 | .ak .. | .box .. | .alloc .. | .c7 .. | .st .. | .mk .. | .app .. | .c9 .. | .q8 .. | .ou .. | .z0 .. | .oy .. | .di .. => false
 | _=>true
def H0:BK->Bool
 | .skip=>true
 | .ops l _=>l.all λ a=>TN a.op
 | .dr c _ ss=>H0 c&&ss.isEmpty
 | .scope c=>H0 c
 | .seq a b=>H0 a&&H0 b
 | .cond _ a b=>H0 a&&H0 b
 | .block _ c=>H0 c
 | .loop c=>H0 c
 | .exit _=>true
 | .ret=>true
def OX:It->Bool
 | .code c=>H0 c
 | .ki _ ss=>ss.isEmpty
 | .g8 _=>true
 | .lp c=>H0 c
theorem Xb {C:Cl} {b9:List Nat} {ρ:AP->AV} {own:AH} {op:DP} {E:BU} (ho:TN op=true) (h:g7 C b9 ρ own op=some E) : ∃ v,E = .val v:=by
 cases op<;>first|(simp [TN]at ho;done)|skip
 all_goals simp only[g7]at h
 all_goals
  first
   | (simp only[Option.some.injEq]at h;exact ⟨_,h.symm⟩)
   | (simp only[Option.map_eq_some_iff]at h;obtain ⟨_,_,rfl⟩:=h;exact ⟨_,rfl⟩)
   | skip
 all_goals (repeat' split at h)
 all_goals
  first
   | (cases h;done)
   | (simp only[Option.some.injEq]at h;exact ⟨_,h.symm⟩)
   | (simp only[Option.map_eq_some_iff]at h;obtain ⟨_,_,rfl⟩:=h;exact ⟨_,rfl⟩)
theorem Ahk {C:Cl} {a:AI} (ho:TN a.op=true) {s s':St} (h:CN C a s=some s'):s'.own=s.own:=by
 unfold CN at h;split at h
 ·cases he:g7 C a.b9 s.ev s.own a.op with
  | none=>rw[he]at h;cases h
  | some E =>
   rw[he]at h;obtain ⟨v,rfl⟩:=Xb ho he;simp only[Option.map_some,Option.some.injEq]at h;subst h;simp only[St.app];cases a.dst<;>rfl
 ·simp only[Option.some.injEq]at h
  subst h;cases a.dst<;>rfl
 ·cases h
theorem vJ {C:Cl} : ∀ {l:List AI},(l.all λ a=>TN a.op)=true -> ∀ {s s':St},C4 C l s=some s'->s'.own=s.own
 | [],_,s,s',h=>by simp only[C4,Option.some.injEq]at h;rw[h]
 | a::l,ho,s,s',h=>by
  simp only[List.all_cons,Bool.and_eq_true]at ho;simp only[C4]at h;cases h1:CN C a s with
  | none=>rw[h1]at h;cases h
  | some s1 =>
   rw[h1]at h;rw[vJ ho.2 h,Ahk ho.1 h1]
theorem VJ {id:Nat} : ∀ {k k':List It},k.all OX=true->DJ id k=some k'->k'.all OX=true
 | [],_,_,h=>by simp [DJ]at h
 | it::k,k',hk,h=>by
  simp only[List.all_cons,Bool.and_eq_true]at hk;cases it with
  | g8 i =>
   simp only[DJ]at h;split at h
   ·cases h;exact hk.2
   ·exact VJ hk.2 h
  | code c=>simp only[DJ]at h;exact VJ hk.2 h
  | ki a b=>simp only[DJ]at h;exact VJ hk.2 h
  | lp c=>simp only[DJ]at h;exact VJ hk.2 h
theorem IU {C:Cl} : ∀ (n:Nat) {k:List It},k.all OX=true -> ∀ {s s':St},run C n k s=some s'->s'.own=s.own
 | 0,k,_,s,s',h=>by simp [run]at h
 | n+1,[],_,s,s',h=>by
  simp only[run,Option.some.injEq]at h;rw[h]
 | n+1,it::k,hk,s,s',h=>by
  have iy:=hk;simp only[List.all_cons,Bool.and_eq_true]at hk;obtain ⟨hi,hk⟩:=hk;cases it with
  | g8 _=>simp only[run]at h;exact IU n hk h
  | ki ts ss =>
   have:ss=[]:=by simpa [OX] using hi
   subst this;simp only[run]at h;rw[IU n hk h];rfl
  | lp c=>simp only[run]at h;exact IU n (by simp only[List.all_cons,Bool.and_eq_true];exact ⟨hi,hi,hk⟩) h
  | code c =>
   cases c with
   | skip=>simp only[run]at h;exact IU n hk h
   | ops l d =>
    simp only[run]at h;cases h1:C4 C l s with
    | none=>rw[h1]at h;cases h
    | some s1 =>
     rw[h1]at h;rw[IU n hk h,vJ (show (l.all λ a=>TN a.op)=true from hi) h1]
   | dr c ts ss =>
    simp only[run]at h;simp only[OX,H0,Bool.and_eq_true]at hi;exact IU n (by simp only[List.all_cons,Bool.and_eq_true];exact ⟨hi.1,hi.2,hk⟩) h
   | scope c=>simp only[run]at h;exact IU n (by simp only[List.all_cons,Bool.and_eq_true];exact ⟨hi,hk⟩) h
   | seq a b =>
    simp only[run]at h;simp only[OX,H0,Bool.and_eq_true]at hi;exact IU n (by simp only[List.all_cons,Bool.and_eq_true];exact ⟨hi.1,hi.2,hk⟩) h
   | cond x a b =>
    simp only[OX,H0,Bool.and_eq_true]at hi;simp only[run]at h;split at h
    ·exact IU n (by simp only[List.all_cons,Bool.and_eq_true];exact ⟨hi.1,hk⟩) h
    ·exact IU n (by simp only[List.all_cons,Bool.and_eq_true];exact ⟨hi.2,hk⟩) h
    ·cases h
   | block id c=>simp only[run]at h;exact IU n (by simp only[List.all_cons,Bool.and_eq_true];exact ⟨hi,rfl,hk⟩) h
   | loop c=>simp only[run]at h;exact IU n (by simp only[List.all_cons,Bool.and_eq_true];exact ⟨hi,hi,hk⟩) h
   | exit id =>
    simp only[run]at h;split at h
    ·rename_i k' he
     exact IU n (VJ hk he) h
    ·cases h
   | ret =>
    simp only[run,Option.some.injEq]at h;rw[h]
def zN (fn:AFn) (r:AV) (tm:Tm) (_M:Mem):Prop := ∃ rs,P9 tm fn.res=some rs/\IP rs=r
def X6:AV->Bool
 | .g9 vs=>LC vs
 | v=>PN v
theorem lX {σ:E7} {v:AV} (h:X6 v=true):BJ σ v=v:=by
 cases v with
 | g9 vs =>
  simp only[BJ];congr 1;simp only[X6]at h;induction vs with
  | nil=>rfl
  | cons v r ih =>
   simp only[LC]at h;cases hv:PN v<;>simp only[hv,cond_true,cond_false]at h
   ·cases h
   ·rw[List.map_cons,ih h]
    congr 1;cases v<;>first|rfl|(simp [PN,vu]at hv;done)|skip
    rename_i cs;exact X5 (σ:=σ) (v := .agg cs) hv
 | _=>exact X5 (σ:=σ) h
def UH (L:Lib) (f:Nat) (vs:List AV) (r:AV):Prop:=X6 r=true/\(∀ σ:E7,vs.map (BJ σ)=vs) /\ ∀ own:AH,GY L f vs own r own
theorem lV {σ:E7} : ∀ {vs:List AV},LC vs=true->vs.map (BJ σ)=vs
 | [],_=>rfl
 | v::r,h=>by
  simp only[LC]at h;cases hv:PN v<;>simp only[hv,cond_true,cond_false]at h
  ·cases h
  ·rw[List.map_cons,X5 hv,lV h]
theorem zO {f:Nat} {fn:AFn} {vs:List AV} {r:AV} (hL:L f=some fn) (hp:Nat.beq vs.length fn.de=true) (hd:LC vs=true) (He:H0 fn.body=true) (o7:V5 100000 fn.res=true) (hr:X6 r=true) (h:AA L [.code fn.body] (CY 0 vs) [] (zN fn r)):UH L f vs r:=by
 refine ⟨hr,λ σ=>lV hd,λ own => ?_⟩;obtain ⟨n,c,j8,w4,σ,tm,M,hR,rs,Ed,he⟩:=h (λ_ _=>(0,0)) ⟨CY 0 vs,own⟩ ⟨λ j=>Or.inr (by rw[K3];exact X4 hd j),⟨(λ_ _ _ e=>by cases e),(λ_ _ _ e=>by simp [c5,c8]at e),(λ_ _ _ e=>by simp [c5,c8]at e),(λ_ _ _ _ _ _ e=>by simp [c5,c8]at e),(λ_ _ _ e=>by simp [c5,c8]at e)⟩⟩;have ho:=IU n (by simp [OX,He]) w4;obtain ⟨i1,i2⟩:=gN (N:=100000) (s:=j8) hR (λ_ _=>rfl) o7 Ed;refine GY.intro hL (BQ.1 hp) ⟨n,c,j8,w4,?_,ho⟩;rw[i1,Option.map_some,tK i2,he,lX hr]
theorem KD {f:Nat} {vs:List AV} {r:AV} {tm:Tm} {M:Mem} {K:AV->Mem->Prop} (h:UH L f vs r) (hk:K r M):A6 L f vs tm M K:=by
 intro σ own hs;refine ⟨r,own,σ,M,?_,hs,λ_=>rfl,hk⟩;rw[h.2.1 σ,lX h.1];exact h.2.2 own
end Go.g6

namespace Go.g6
variable {L:Lib}
theorem iY {Q:Tm->Mem->Prop} {c:BK} {k:List It} {tm:Tm} {M:Mem} (n:Nat) (h:fT (ye 0 tm) λ tm=>TH M λ M=>XK L Q n (.code c::k) tm M):AA L (.code c::k) tm M Q:=by
 rw[TB,YW]at h;exact iX (bA h)
end Go.g6
