/-
  The walk by computation is sound: calls, regions, code, loops, functions.
-/
import Derived.Test.YtmalpgkkffcbfaaGreatB6
import Derived.Test.YtmalpgkkffcbfaaGreatB5
import Derived.Test.YtmalpgkkffcbfaaGreatB4
import Derived.Test.YtmalpgkkffcbfaaGreatB2
set_option linter.unusedSimpArgs false
set_option linter.unusedVariables false
set_option linter.unnecessarySimpa false
namespace Go.b8
section
variable {σ:E0} {tm:Tm} {M:Mem} {st:St} {L:Lib} {a8:List Nat}
theorem sS {own:AH} {q:Bool} {d:Nat} : ∀ {e:List AV},FG e=true->e.mapM (snap own q d)=some e
 | [],_=>rfl
 | v::r,h=>by
  have hv:snap own q d v=some v/\FG r=true:=by
   cases v<;>simp only[FG]at h<;>first|cases h|exact ⟨by cases d<;>rfl,h⟩
  rw[List.mapM_cons,hv.1,sS hv.2];rfl
theorem sU {own:AH} {q:Bool} {d:Nat} : ∀ {e:List AV},LY e=true->e.mapM (snap own q d)=some (e.map nl)
 | [],_=>rfl
 | v::r,h=>by
  have hv:snap own q d v=some (nl v)/\LY r=true:=by
   cases v<;>simp only[LY]at h<;>first|cases h|exact ⟨by cases d<;>rfl,h⟩
  rw[List.mapM_cons,hv.1,sU hv.2];rfl
theorem sT {own:AH} {q:Bool} {d:Nat} : ∀ {es:List (List AV)},(∀ e∈es,LY e=true)->es.mapM (λ cs:List AV=>cs.mapM (snap own q d))=some (es.map λ e=>e.map nl)
 | [],_=>rfl
 | e::r,h=>by
  rw[List.mapM_cons,sU (h e List.mem_cons_self),sT λ x hx=>h x (List.mem_cons_of_mem _ hx)];rfl
theorem sR {own:AH} {q:Bool} {d:Nat} : ∀ {es:List (List AV)},(∀ e∈es,FG e=true)->es.mapM (λ cs:List AV=>cs.mapM (snap own q d))=some es
 | [],_=>rfl
 | e::r,h=>by
  rw[List.mapM_cons,sS (h e List.mem_cons_self),sR λ x hx=>h x (List.mem_cons_of_mem _ hx)];rfl
theorem vD (hs:GC σ st.own M) {q:Bool} {v:AV} {K:AV->Prop} (h:RY q M a8 v K) : ∃ v',(∀ d,snap (st.own.l6 a8) q (d+1) (A7 σ v)=some v')/\K v'/\v ≠ .any/\BJ σ v=A7 σ v:=by
 cases v with
 | row key t z off len =>
  have fin : ∀ (z':Nat) (es:List (List AV)),((st.own.l6 a8) (σ key t).1).c7 (σ key t).2=some ⟨z',es⟩->z=z'->A3 es off len (λ es=>K (.sl q es)) -> ∃ v',(∀ d,snap (st.own.l6 a8) q (d+1) (A7 σ (.row key t z off len))=some v')/\K v'/\AV.row key t z off len ≠ .any/\BJ σ (.row key t z off len)=A7 σ (.row key t z off len):=by
   intro z' es hb hz h;subst hz;obtain ⟨h1,h2,h3⟩:=h;refine ⟨_,λ d => ?_,h3,(by intro e;cases e),rfl⟩;simp only[A7,snap,EP,AH.get,hb];rw[if_pos ⟨h1,trivial⟩];simp only;rw[sT λ e he=>h2 e (List.mem_of_mem_drop (List.mem_of_mem_take he))];rfl
  simp only[RY]at h;split at h
  ·rename_i s z' es hm
   split at h
   ·cases hz:Nat.beq z z'<;>simp only[hz,cond_true,cond_false]at h
    cases hb:P9 s a8<;>simp only[hb,cond_true,cond_false]at h;refine fin z' es ?_ (BQ.1 hz) h;have y9:=hs.c7 _ _ _ (D6 hm);rw[hs.site _ _ _ hm]at y9 ⊢;rw[TE hb];exact y9
   ·exact h.elim
  ·rename_i s rows hm
   split at h
   ·exact h.elim
   ·rename_i i
    split at h
    ·obtain ⟨z',es,g,h⟩:=h
     cases hz:Nat.beq z z'<;>simp only[hz,cond_true,cond_false]at h;exact fin z' es (hs.c7 key (i+1) (.rw z' es) (by simp [a7,hm,g])) (BQ.1 hz) h
    ·rename_i b r
     cases hb:RK (b::r)<;>simp only[hb,cond_true,cond_false]at h;obtain ⟨z',es,g,h⟩:=h;cases hz:Nat.beq z z'<;>simp only[hz,cond_true,cond_false]at h;have g':a7 M key (i+1)=some (.rw z' es):=by simp [a7,hm,g]
     refine fin z' es ?_ (BQ.1 hz) h;rw[fI (hs.low _ _ _ g' rfl) hb];exact hs.c7 key (i+1) (.rw z' es) g'
  ·exact h.elim
 | int k n=>exact ⟨_,λ d=>rfl,h,(by intro e;cases e),rfl⟩
 | bool b=>exact ⟨_,λ d=>rfl,h,(by intro e;cases e),rfl⟩
 | sl l es=>exact ⟨_,λ d=>rfl,h,(by intro e;cases e),rfl⟩
 | bj c=>exact ⟨_,λ d=>rfl,h,(by intro e;cases e),rfl⟩
 | nil=>exact ⟨_,λ d=>rfl,h,(by intro e;cases e),rfl⟩
 | _=>exact (h:False).elim
theorem vC (hs:GC σ st.own M) {q:Bool} : ∀ {l:List AV} {K:List AV->Prop},ZS q M a8 l K -> ∃ l',(∀ d,(l.map (A7 σ)).mapM (snap (st.own.l6 a8) q (d+1))=some l')/\K l'
 | [],K,h=>⟨[],λ d=>rfl,h⟩
 | v::r,K,h=>by
  obtain ⟨v',h1,h2,_⟩:=vD hs (show RY q M a8 v λ v'=>ZS q M a8 r λ r'=>K (v'::r') from h);obtain ⟨l',h3,h4⟩:=vC hs h2;refine ⟨v'::l',λ d => ?_,h4⟩;rw[List.map_cons,List.mapM_cons,h1 d,h3 d];rfl
theorem vB (hs:GC σ st.own M) {q:Bool} : ∀ {l:List (List AV)} {K:List (List AV)->Prop},gV q M a8 l K -> ∃ l',(∀ d,(l.map λ cs=>cs.map (A7 σ)).mapM (λ cs:List AV=>cs.mapM (snap (st.own.l6 a8) q (d+1)))=some l')/\K l'
 | [],K,h=>⟨[],λ d=>rfl,h⟩
 | v::r,K,h=>by
  obtain ⟨v',h1,h2⟩:=vC hs (show ZS q M a8 v λ v'=>gV q M a8 r λ r'=>K (v'::r') from h);obtain ⟨l',h3,h4⟩:=vB hs h2;refine ⟨v'::l',λ d => ?_,h4⟩;rw[List.map_cons,List.mapM_cons,h1 d,h3 d];rfl
theorem gI {own:AH} {q:Bool} {d:Nat} {k:Nat} : ∀ {rows:List (Option (Nat × List (List AV)))} {i:Nat},(∀ j z es,rows[j]? = some (some (z,es))->(own (σ k (i+j+1)).1).c7 (σ k (i+j+1)).2=some ⟨z,es⟩ /\ ∀ e∈es,FG e=true) ->
  (B6 σ k i rows).mapM (λ cs:List AV=>cs.mapM (snap own q (d+1)))=some (QD q rows)
 | [],i,h=>rfl
 | none::r,i,h=>by
  rw[B6,List.mapM_cons,gI (i:=i+1) λ j z es hj=>by
   have:=h (j+1) z es (by simpa using hj)
   rwa [show i+(j+1)+1=i+1+j+1 by omega]at this]
  rfl
 | some (z,es)::r,i,h=>by
  rw[B6,List.mapM_cons,gI (i:=i+1) λ j z es hj=>by
   have:=h (j+1) z es (by simpa using hj)
   rwa [show i+(j+1)+1=i+1+j+1 by omega]at this]
  obtain ⟨h1,h2⟩:=h 0 z es rfl;have:snap own q (d+1) (.row (σ k (i+1)).1 (σ k (i+1)).2 z 0 es.length)=some (.sl q es):=by
   simp only[snap,EP,AH.get];rw[show (own (σ k (i+1)).1).c7 (σ k (i+1)).2=some ⟨z,es⟩ from h1];simp only[Nat.zero_add,Nat.le_refl,and_self,if_true,List.drop_zero];rw[zT (Nat.le_refl _),sR h2];rfl
  rw[List.mapM_cons,this];rfl
theorem vA (hs:GC σ st.own M) {q:Bool} {v:AV} {K:AV->Prop} (h:VY q M a8 v K) : ∃ v',snap (st.own.l6 a8) q 6 (A7 σ v)=some v'/\K v'/\v ≠ .any/\BJ σ v=A7 σ v/\CW (st.own.l6 a8) q (A7 σ v)=some v':=by
 have tz:RY q M a8 v K -> ∃ v',snap (st.own.l6 a8) q 6 (A7 σ v)=some v'/\K v'/\v ≠ .any/\BJ σ v=A7 σ v/\CW (st.own.l6 a8) q (A7 σ v)=some v':=by
  intro h;obtain ⟨v',h1,h2,h3,h4⟩:=vD hs h;refine ⟨v',h1 5,h2,h3,h4,?_⟩;have:=h1 5
  cases v<;>first|exact this|exact (h:False).elim
 unfold VY at h;split at h
 ·rename_i key z off len
  split at h
  ·rename_i s z' es hm
   cases hz:Nat.beq z z'<;>simp only[hz,cond_true,cond_false]at h;cases hb:P9 s a8<;>simp only[hb,cond_true,cond_false]at h;cases ho:Nat.beq off 0<;>simp only[ho,cond_true,cond_false]at h;obtain rfl:=BQ.1 hz;obtain rfl:=BQ.1 ho;obtain ⟨rfl,h⟩:=h;obtain ⟨l',h1,h2⟩:=vB hs h;have y9:=hs.c7 _ _ _ (D6 hm);rw[hs.site _ _ _ hm]at y9;have key:snap (st.own.l6 a8) q 6 (A7 σ (.row key 0 z 0 es.length))=some (.sl q l'):=by
    simp only[A7,snap,EP,AH.get,hs.site _ _ _ hm];rw[TE hb,y9];simp only[A8.c7,Nat.zero_add,List.length_map,Nat.le_refl,and_self,if_true,List.drop_zero];rw[zT (by simp),h1 4];rfl
   exact ⟨_,key,h2,(by intro e;cases e),rfl,key⟩
  ·rename_i s rows hm
   split at h
   ·cases hz:Nat.beq z 1<;>simp only[hz,cond_true,cond_false]at h
    obtain rfl:=BQ.1 hz;obtain ⟨rfl,rfl,h1,h2⟩:=h;have y9:=hs.c7 _ _ _ (D6 hm);have key:snap (st.own.l6 []) q 6 (A7 σ (.row key 0 1 0 rows.length))=some (.sl q (QD q rows)):=by
     simp only[A7,snap,EP,AH.get,AH.l6];rw[y9];simp only[A8.c7,Nat.zero_add,E3,Nat.le_refl,and_self,if_true,List.drop_zero];rw[zT (by rw[E3];exact Nat.le_refl _),gI (i:=0) λ j z es hj=>⟨by
      have:=hs.c7 key (j+1) (.rw z es) (by simp [a7,hm,hj])
      simpa [A8.c7] using this,h1 z es (zM hj)⟩]
     rfl
    exact ⟨_,key,h2,(by intro e;cases e),rfl,key⟩
   ·exact h.elim
  ·exact tz h
 ·exact tz h
theorem vE (hs:GC σ st.own M) {q:Bool} : ∀ {l:List AV} {K:List AV->Prop},gW q M a8 l K -> ∃ l',(l.map (A7 σ)).mapM (snap (st.own.l6 a8) q 6)=some l'/\K l'
 | [],K,h=>⟨[],rfl,h⟩
 | v::r,K,h=>by
  obtain ⟨v',h1,h2,_⟩:=vA hs (show VY q M a8 v λ v'=>gW q M a8 r λ r'=>K (v'::r') from h);obtain ⟨l',h3,h4⟩:=vE hs h2;refine ⟨v'::l',?_,h4⟩;rw[List.map_cons,List.mapM_cons,h1,h3];rfl
theorem ZR (hs:GC σ st.own M) {q:Bool} {v:AV} {K:AV->Prop} (h:PI q M a8 v K) : ∃ v',CW (st.own.l6 a8) q (BG σ v)=some v'/\K v'/\v ≠ .any/\BG σ v=BJ σ v:=by
 cases v with
 | agg cs =>
  simp only[PI]at h;obtain ⟨l',h1,h2⟩:=vE hs h;refine ⟨.agg l',?_,h2,(by intro e;cases e),rfl⟩;simp only[H8,CW,h1,Option.map_some]
 | e6 vs=>exact (h:False).elim
 | fn p f g cs=>exact (h:False).elim
 | any=>exact (h:False).elim
 | _ =>
  simp only[PI]at h;obtain ⟨v',h1,h2,h3,h4,h5⟩:=vA hs h;exact ⟨v',h5,h2,h3,rfl⟩
theorem ZU (hr:RX σ tm M st) : ∀ {xs:List AP} {K:List AV->Prop},VZ tm M a8 xs K -> ∃ vs,(xs.map st.ev).mapM (CW (st.own.l6 a8) true)=some vs/\K vs
 | [],K,h=>⟨[],rfl,h⟩
 | x::r,K,h=>by
  obtain ⟨v',h1,h2,h3,_⟩:=ZR hr.sat (show PI true M a8 (ex tm x) λ v=>VZ tm M a8 r λ vs=>K (v::vs) from h);obtain ⟨l',h4,h5⟩:=ZU hr h2;refine ⟨v'::l',?_,h5⟩;rw[List.map_cons,List.mapM_cons,hr.ev rfl h3,h1,h4];rfl
theorem Ag6 (hs:GC σ st.own M) {v:AV} {K:AV->Prop} (h:ZT M a8 v K) : ∃ v',OH (st.own.l6 a8) true (BG σ v)=some v'/\K v'/\v ≠ .any/\BG σ v=BJ σ v:=by
 cases v with
 | nil=>exact ⟨.nil,rfl,h,(by intro e;cases e),rfl⟩
 | _ =>
  simp only[ZT]at h;obtain ⟨v',h1,h2,h3,h4⟩:=ZR hs h;exact ⟨v',h1,h2,h3,h4⟩
theorem vF (hr:RX σ tm M st) : ∀ {xs:List AP} {K:List AV->Prop},gX tm M a8 xs K -> ∃ vs,(xs.map st.ev).mapM (OH (st.own.l6 a8) true)=some vs/\K vs
 | [],K,h=>⟨[],rfl,h⟩
 | x::r,K,h=>by
  obtain ⟨v',h1,h2,h3,_⟩:=Ag6 hr.sat (show ZT M a8 (ex tm x) λ v=>gX tm M a8 r λ vs=>K (v::vs) from h);obtain ⟨l',h4,h5⟩:=vF hr h2;refine ⟨v'::l',?_,h5⟩;rw[List.map_cons,List.mapM_cons,hr.ev rfl h3,h1,h4];rfl
theorem SY (hr:RX σ tm M st) : ∀ {xs:List AP} {K:List AV->Prop},Q8 tm xs K -> ∃ vs,xs.map st.ev=vs.map (BG σ)/\K vs
 | [],K,h=>⟨[],rfl,h⟩
 | x::r,K,h=>by
  obtain ⟨h1,h2⟩:=YD (show fV (ex tm x) λ v=>Q8 tm r λ vs=>K (v::vs) from h);obtain ⟨vs,h3,h4⟩:=SY hr h2;exact ⟨ex tm x::vs,by rw[List.map_cons,List.map_cons,hr.ev rfl h1,h3],h4⟩
theorem lD {v:AV} (h:A2 v):A7 σ v=v:=by
 cases v<;>first|rfl|(simp only[A2]at h)
theorem lB : ∀ {l:List AV},B8 l->l.map (A7 σ)=l
 | [],_=>rfl
 | v::r,h=>by
  simp only[B8]at h;rw[List.map_cons,lD h.1,lB h.2]
theorem lE {v:AV} (h:A2 v):BJ σ v=v:=by
 cases v with
 | agg cs=>simp only[A2]at h;simp only[BJ,lB h]
 | fn p f g cs=>simp only[A2]at h
 | _=>exact lD (σ:=σ) h
theorem lC : ∀ {l:List AV},B8 l->l.map (BJ σ)=l
 | [],_=>rfl
 | v::r,h=>by
  simp only[B8]at h;rw[List.map_cons,lE h.1,lC h.2]
theorem bA {v:AV} (h:A2 v):BG σ v=v:=by
 cases v with
 | e6 cs=>simp only[A2]at h;simp only[BG,lC h]
 | _=>exact lE (σ:=σ) h
theorem tR {I:List AV->Option (AV × AH)} {vs:List AV} {r:AV} (h:HZ I vs=some r):A2 r:=by
 unfold HZ at h;split at h
 ·split at h
  ·split at h
   ·obtain rfl:=Option.some.inj h
    assumption
   ·cases h
  ·cases h
 ·cases h
theorem Ev.clean {f:Nat} {vs:List AV} {r:AV} (h:Ev L f vs r):A2 r:=by
 obtain ⟨n,h⟩:=h;unfold F4 J8 at h;split at h
 ·split at h
  ·rename_i r1 r2 h1 h2
   split at h
   ·obtain rfl:=Option.some.inj h
    exact tR h1
   ·cases h
  ·cases h
 ·exact tR h
theorem RX.put (h:RX σ tm M st) (d:Nat) {v v':AV} (e:v'=BG σ v):RX σ ((d,v)::tm) M ⟨gi st.tm d v',st.own⟩:=by
 refine ⟨λ j => ?_,h.sat⟩;simp only[tg,WA];cases hb:Nat.beq j d
 ·rw[if_neg (E7.1 hb)];exact h.tm j
 ·rw[if_pos (BQ.1 hb)];exact Or.inr e
theorem sV : ∀ {cs:List AV},VI cs=true->cs.map (BG σ)=cs.map (A7 σ)
 | [],_=>rfl
 | v::r,h=>by
  simp only[VI]at h;cases hv:fK v<;>simp only[hv,cond_true,cond_false]at h
  ·cases h
  ·rw[List.map_cons,List.map_cons,sV h]
   cases v<;>first|rfl|(simp [fK]at hv)
theorem Xi {v:AV} (h:F3 v=true):A7 σ v=v:=by cases v<;>first|rfl|(simp [F3]at h)
theorem mR : ∀ {cs:List AV},cs.all F3=true->cs.map (A7 σ)=cs
 | [],_=>rfl
 | c::r,h=>by
  simp only[List.all_cons,Bool.and_eq_true]at h;rw[List.map_cons,Xi h.1,mR h.2]
theorem mS : ∀ {vs:List AV},vs.all dq=true->vs.map (BG σ)=vs
 | [],_=>rfl
 | v::r,h=>by
  simp only[List.all_cons,Bool.and_eq_true]at h;rw[List.map_cons,mS h.2];congr 1;cases v with
  | agg cs=>simp only[BG,BJ,mR (show cs.all F3=true from h.1)]
  | _=>first|rfl|(simp [dq,F3]at h)
theorem Afs {r:AV} (hc:A2 r) (hf:IV r):BG σ (yi r)=yi r:=by
 cases r with
 | agg cs =>
  simp only[yi,BG,BJ];congr 1;rw[List.map_map];refine List.map_congr_left λ c nh => ?_
  have:=hf c nh
  cases c<;>first|rfl|exact this.elim
 | _=>first|rfl|exact hf.elim
theorem Afo {c:AV} (h:A2 c):A7 σ (GS c)=GS c:=by
 cases c<;>first|(simp only[GS,A7];done)|(simp only[A2]at h;done)
theorem eC {r:AV} (h:A2 r) (hd:WL r):BJ σ (HV r)=HV r:=by
 cases r with
 | agg cs =>
  simp only[A2]at h;have : ∀ cs:List AV,B8 cs->(LB cs).map (A7 σ)=LB cs:=by
   intro cs;induction cs with
   | nil=>intro _;simp [LB]
   | cons c l ih =>
    intro h;simp only[B8]at h;rw[LB,List.map_cons,ih h.2,Afo h.1]
  simp only[HV,BJ,this cs h]
 | e6=>exact hd.elim
 | fn=>exact hd.elim
 | _=>first|(simp only[HV,GS,BJ,A7];done)|(simp only[A2]at h;done)
theorem Afp {r:AV} (h:A2 r) (hd:QL r):BG σ (J2 r)=J2 r:=by
 cases r with
 | e6 vs =>
  simp only[A2]at h;have : ∀ vs:List AV,B8 vs->(∀ v∈vs,WL v)->(vs.map HV).map (BJ σ)=vs.map HV:=by
   intro vs;induction vs with
   | nil=>intro _ _;rfl
   | cons v l ih =>
    intro h hd;simp only[B8]at h;rw[List.map_cons,List.map_cons,ih h.2 λ x hx=>hd x (List.mem_cons_of_mem _ hx),eC h.1 (hd v List.mem_cons_self)]
  simp only[J2,BG,this vs h hd]
 | fn=>exact hd.elim
 | agg cs=>exact eC h trivial
 | _=>first|exact eC h trivial|(simp only[J2,HV,GS,BG,BJ,A7];done)|(simp only[A2]at h;done)
theorem Afq {r:AV} (h:A2 r) (hd:IV r\/QL r):BG σ (LC r)=LC r:=by
 by_cases hf:IV r
 ·rw[eE hf];exact Afs h hf
 ·rw[eD hf];exact Afp h (hd.resolve_left hf)
theorem qE : ∀ {l:List AV},YH l=true->l.map (BG σ)=l
 | [],_=>rfl
 | .int _ _::r,h=>by
  rw[List.map_cons,qE (l:=r) h];rfl
theorem sJ {s:Nat} : ∀ {M:Mem},TD s M=true -> ∀ k s' c,b7 M k=some (s',c)->s'≠s
 | [],_,_,_,_,e=>by cases e
 | (k0,s0,c0)::r,h,k,s',c,e=>by
  simp only[TD]at h;cases hb:Nat.beq s0 s<;>simp only[hb,cond_true,cond_false]at h
  ·simp only[b7]at e
   cases hk:Nat.beq k k0<;>simp only[hk,cond_true,cond_false]at e
   ·exact sJ h k s' c e
   ·obtain ⟨rfl,_⟩:=Prod.mk.inj (Option.some.inj e)
    exact λ e2=>by rw[e2]at hb;simp at hb
  ·cases h
theorem GC.Ak {σ:E0} {own Hj:AH} {M:Mem} {s:Nat} (h:GC σ own M) (hl:EQ s=false) (hn:TD s M=true) (ho : ∀ q,q≠s->Hj q=own q):GC σ Hj M:=by
 have k8 : ∀ k t c,a7 M k t=some c->(σ k t).1≠s:=λ k t c e=>by
  cases hr:c.km with
  | true =>
   intro e2;have:=h.low k t c e hr
   rw[e2,hl]at this;cases this
  | false =>
   obtain ⟨s',c0,g,g1,g2⟩:=GF e;cases t with
   | zero=>rw[h.site k s' c0 g];exact sJ hn k s' c0 g
   | succ i =>
    obtain ⟨rows,z,es,_,_,rfl⟩:=g2 i rfl;cases hr
 exact ⟨h.site,λ k t c e=>by rw[ho _ (k8 k t c e)];exact h.c7 k t c e,λ k t c e=>by rw[ho _ (k8 k t c e)];exact h.old k t c e,h.inj,h.low⟩
theorem Uc {K:AV->Mem->Prop} (hr:RX σ tm M st) {op:DT} (h:XE L tm M a8 K op):BU L tm a8 K op st\/(∃ f xs,op = .call f xs)\/(∃ f xs,op = .c9 f xs)\/(∃ x xs,op = .m4 x xs)\/(∃ f xs,op = .j5 f xs)\/(∃ s f xs,op = .s8 s f xs) \/ ∃ s f xs,op = .x7 s f xs:=by
 cases op with
 | call f xs=>exact Or.inr (Or.inl ⟨_,_,rfl⟩)
 | c9 f xs=>exact Or.inr (Or.inr (Or.inl ⟨_,_,rfl⟩))
 | m4 x xs=>exact Or.inr (Or.inr (Or.inr (Or.inl ⟨_,_,rfl⟩)))
 | j5 f xs=>exact Or.inr (Or.inr (Or.inr (Or.inr (Or.inl ⟨_,_,rfl⟩))))
 | s8 s f xs=>exact Or.inr (Or.inr (Or.inr (Or.inr (Or.inr (Or.inl ⟨_,_,_,rfl⟩)))))
 | x7 s f xs=>exact Or.inr (Or.inr (Or.inr (Or.inr (Or.inr (Or.inr ⟨_,_,_,rfl⟩)))))
 | mq s n x v=>exact Or.inl (Sk hr h)
 | ta ne x=>exact Or.inl (Ue hr h)
 | bad=>exact (show False from h).elim
 | mn x=>exact Or.inl (Sg hr h)
 | eg x=>exact Or.inl (Tw hr h)
 | oa s z b x y=>exact Or.inl (Tq hr h)
 | gf tb x=>exact Or.inl (Si hr h)
 | pz p f xs=>exact Or.inl (Sd hr h)
 | n0 x=>exact Or.inl (Sf hr h)
 | v9 s z=>exact Or.inl (Sn hr h)
 | pick c a b=>exact Or.inl (Sh hr h)
 | bin o x y=>exact Or.inl (Ts hr h)
 | beq ne x y=>exact Or.inl (Tr hr h)
 | un o x=>exact Or.inl (Sl hr h)
 | conv k x=>exact Or.inl (Tx hr h)
 | box s x=>exact Or.inl (Tt hr h)
 | alloc s z=>exact Or.inl (Tn hr h)
 | build z ps=>exact Or.inl (Tv hr h)
 | b9 s z ps=>exact Or.inl (Tu hr h)
 | u6 x o=>exact Or.inl (Ua hr h)
 | oz x o n a=>exact Or.inl (Ub hr h)
 | q7 a z x i=>exact Or.inl (Ud hr h)
 | ld a n x=>exact Or.inl (Uf hr h)
 | st n x v=>exact Or.inl (kA hr h)
 | mk s z b ze l c=>exact Or.inl (Sc hr h)
 | fk z x lo hi=>exact Or.inl (Sj hr h)
 | ext x i=>exact Or.inl (Tz hr h)
 | len x=>exact Or.inl (Ug hr h)
 | mm m xs=>exact Or.inl (Se hr h)
 | app s z b x y=>exact Or.inl (To hr h)
theorem aL {K:AV->Mem->Prop} (hr:RX σ tm M st) {op:DT} {d:Option Nat} {g:Option (Nat × Bool)} {l:List AI} {k:List It} {Q:St->Prop} (h:XE L tm M a8 K op) (hg:EW st g=some true)
  (hk : ∀ σ' v v' M' k6,K v M'->v'=BG σ' v->RX σ' tm M' ⟨st.tm,k6⟩->AO L l k ⟨((⟨st.tm,k6⟩:St).dst d v').tm,k6⟩ Q):AO L (⟨d,op,g,a8⟩::l) k st Q:=by
 rcases Uc hr h with ⟨E,σ',v,M',h1,h2,h3,h4⟩|⟨f,xs,rfl⟩|⟨f,xs,rfl⟩|⟨x,xs,rfl⟩|⟨f,xs,rfl⟩|⟨s,f,xs,rfl⟩|⟨s,f,xs,rfl⟩
 ·rw[yQ hg h1,aP]
  have:=hk σ' v _ M' _ h2 h3 h4
  cases d<;>exact this
 ·simp only[XE]at h
  obtain ⟨vs,h1,r,h2,h3⟩:=ZU hr h;rw[yG hg h1 h2];have:=hk σ r r M st.own h3 (bA h2.clean).symm hr
  cases d<;>exact this
 ·simp only[XE]at h
  split at h
  ·rename_i s
   obtain ⟨vs,h1,hF,⟨hl,hn⟩,h2⟩:=SY hr h;have bp:GC σ (st.own.put s ⟨0,λ_=>none⟩) M:=hr.sat.Ak hl hn λ q hq=>by simp [AH.put,hq]
   obtain ⟨r,k6,σ',M',⟨n,h3⟩,h4,h5,oh,h6⟩:=h2 σ _ bp;rw[<-h1]at h3;refine yF hg (r:=BG σ' r) (o':=k6.put s ⟨0,λ_=>none⟩) (by simp [AH.put]) ⟨n,λ o ho => ?_⟩ ?_
   ·rw[hF n _ _ o _ _ (λ t=>by simp [AH.get,AH.put]) (λ q hq=>by rw[ho q hq];simp [AH.put,hq]) h3]
    congr 2;funext q
    simp only[AH.put];split<;>rfl
   ·have:=hk σ' r _ M' ((k6.put s ⟨0,λ_=>none⟩).put s (st.own s)) h6 rfl ⟨λ j=>by rw[h5 j];exact hr.tm j,h4.Ak hl oh λ q hq=>by simp [AH.put,hq]⟩
    cases d<;>exact this
  ·rename_i hb
   obtain ⟨vs,h1,h2⟩:=SY hr h;obtain ⟨r,k6,σ',M',h3,h4,h5,h6⟩:=h2 σ st.own hr.sat;rw[<-h1]at h3;rw[yI (λ s e=>hb s e) hg h3];have:=hk σ' r _ M' k6 h6 rfl ⟨λ j=>by rw[h5 j];exact hr.tm j,h4⟩
   cases d<;>exact this
 ·simp only[XE]at h
  split at h
  ·rename_i f g' e1
   obtain ⟨h0,h⟩:=h;obtain ⟨vs,h1,r,h2,h3⟩:=ZU hr h;have e2:=hr.ev e1 (by intro e;cases e);rw[ZO,List.map_nil,h0]at e2;rw[yJ hg e2 h1 h2];have:=hk σ r r M st.own h3 (bA h2.clean).symm hr
   cases d<;>exact this
  ·rename_i f g' c cs e1
   obtain ⟨h0,h⟩:=h;obtain ⟨v',h1,h,_,_⟩:=ZR hr.sat h;obtain ⟨vs,h2,r,h3,h4⟩:=ZU hr h;have e2:=hr.ev e1 (by intro e;cases e);rw[ZO,h0]at e2;have h5:(AV.agg (c::cs |>.map (A7 σ))::xs.map st.ev).mapM (CW st.own true)=some (v'::vs):=by
    rw[List.mapM_cons,show CW st.own true (AV.agg (c::cs |>.map (A7 σ)))=some v' from h1,show (xs.map st.ev).mapM (CW st.own true)=some vs from h2];rfl
   rw[yH hg e2 h5 h3];have:=hk σ r r M st.own h4 (bA h3.clean).symm hr
   cases d<;>exact this
  ·rename_i f g' cs e1
   cases ho:VI cs<;>simp only[ho,cond_true,cond_false]at h;obtain ⟨h0,h⟩:=h;obtain ⟨vs,h1,h2⟩:=SY hr h;rw[G4]at h2;obtain ⟨r,k6,σ',M',h3,h4,h5,h6⟩:=h2 σ st.own hr.sat;rw[List.map_append,<-h1,sV (σ:=σ) ho]at h3;have e2:=hr.ev e1 (by intro e;cases e);rw[ZO,h0]at e2;rw[yM hg e2 h3];have:=hk σ' r _ M' k6 h6 rfl ⟨λ j=>by rw[h5 j];exact hr.tm j,h4⟩
   cases d<;>exact this
  ·exact h.elim
 ·simp only[XE]at h
  obtain ⟨vs,h1,h2⟩:=SY hr h;cases ho:vs.all dq<;>simp only[ho,cond_true,cond_false]at h2;obtain ⟨r,h3,h4,h5⟩:=h2;have e1:xs.map st.ev=vs:=by rw[h1];exact mS ho
  rw[yK hg (by rw[e1];exact ho) (by rw[e1];exact h3) h4];have:=hk σ (LC r) (LC r) M st.own h5 (Afq h3.clean h4).symm hr
  cases d<;>exact this
 ·simp only[XE]at h
  cases Fx:EQ s<;>simp only[Fx,cond_true,cond_false]at h;obtain ⟨vs,h1,z,es,n,h2,rfl,h3⟩:=vF hr h;obtain ⟨k',g1,g2,g3⟩:=HL h3;refine yL hg h1 h2 ?_;rw[aP];have:=hk (CX σ k' λ_=>(s,st.own.e8 s)) _ (.row s (st.own.e8 s) z 0 es.length) _ _ g3 (by simp only[DL,BR]) (hr.gy (q:=s) g1 g2 (.rw z es) trivial rfl (λ_=>Fx))
  cases d<;>exact this
 ·simp only[XE]at h
  obtain ⟨vs,h1,h2⟩:=SY hr h;split at h2
  ·rename_i key rest
   cases hi:YH rest<;>simp only[hi,cond_true,cond_false]at h2;obtain ⟨cells,fm,kd,n,g1,g2,g3,g4,g5⟩:=h2;have ff:=hr.sat.site _ _ _ g1;have y9:=hr.sat.c7 _ _ _ (D6 g1);rw[ff]at y9;simp only[A8.c7,ID g2]at y9;have w4:xs.map st.ev = .ptr s (σ key 0).2 0 0::rest:=by
    rw[h1,List.map_cons,D8,ff,qE hi]
   have hE:=g4 (σ key 0).2 (st.own s) y9;refine yN hg (by rw[w4];exact hE) ?_;rw[aP];have:=hk σ (.int kd n) (.int kd n) _ _ g5 rfl (hr.Nr g1 trivial (.bx fm) trivial (λ h=>by cases h))
   simp only[A8.c7,ID g3]at this;cases d<;>exact this
  ·exact h2.elim
theorem Aek (hr:RX σ tm M st) {g:Nat} {w:Bool} {b:Bool} (e:tg tm g = .bool b):EW st (some (g,w))=some (b == w):=by
 rcases hr.tm g with h|h
 ·rw[e]at h;cases h
 ·rw[e]at h
  simp only[EW,h,GV]
theorem Ael (hr:RX σ tm M st) {g:Nat} {w:Bool} (e:tg tm g = .e6 []):EW st (some (g,w))=some false:=by
 rcases hr.tm g with h|h
 ·rw[e]at h;cases h
 ·rw[e]at h
  simp only[EW,h,H9,List.map_nil]
theorem iJ {key:Nat} : ∀ (tm:Tm) (j:Nat),tg (Dz key tm) j = .any\/tg (Dz key tm) j=tg tm j
 | [],_=>Or.inl rfl
 | (i,v)::r,j=>by
  simp only[Dz];cases hc:PT key v<;>cases hb:Nat.beq j i;all_goals simp only[cond_true,cond_false,tg,hb]
  ·exact iJ r j
  ·exact Or.inr trivial
  ·exact iJ r j
  ·exact Or.inl trivial
theorem AhS {v:AV} {K:Tm->Prop} (h:xk v tm K) : ∃ ae,(∀ j,tg ae j = .any\/tg ae j=tg tm j)/\K ae:=by
 unfold xk at h;split at h
 ·rw[S0]at h
  exact ⟨_,λ j=>iJ _ j,h⟩
 ·exact ⟨_,λ j=>Or.inr rfl,h⟩
theorem kB {k:List It} {Q:Tm->Mem->Prop} : ∀ {l:List AI} {K:Tm->Mem->Prop} {tm:Tm} {M:Mem},XO L l K tm M->(∀ ae M',K ae M'->AA L k ae M' Q)->iX L l k tm M Q
 | [],K,tm,M,h,hk=>λ σ st hr=>yO.2 (hk tm M h σ st hr)
 | o::l,K,tm,M,h,hk=>by
  intro σ st hr;have h:XI L o (XO L l) K tm M:=h;have ih : ∀ ae M',XO L l K ae M'->iX L l k ae M' Q:=λ ae M' h'=>kB h' hk
  have some_ : ∀ (d:Nat) (op:DT) (g:Option (Nat × Bool)) (a8:List Nat),EW st g=some true->XE L tm M a8 (λ v M=>XO L l K ((d,v)::tm) M) op->AO L (⟨some d,op,g,a8⟩::l) k st (SQ Q):=by
   intro d op g a8 hg hx;refine aL hr hx hg ?_;intro σ' v v' M' k6 h1 h2 h3;exact ih _ _ h1 σ' _ (h3.put d h2)
  have Cv : ∀ (d:Nat) (u:AV) (op:DT) (a8:List Nat),XE L tm M a8 (λ v M=>xk u tm λ tm=>XO L l K ((d,v)::tm) M) op->AO L (⟨some d,op,none,a8⟩::l) k st (SQ Q):=by
   intro d u op a8 hx;refine aL hr hx rfl ?_;intro σ' v v' M' k6 h1 h2 h3;obtain ⟨ae,g1,g2⟩:=AhS h1;exact ih _ _ g2 σ' _ ((show RX σ' ae M' ⟨st.tm,k6⟩ from ⟨λ j=>(g1 j).elim Or.inl λ e=>by rw[e];exact h3.tm j,h3.sat⟩).put d h2)
  have none_ : ∀ (op:DT) (g:Option (Nat × Bool)) (a8:List Nat),EW st g=some true->XE L tm M a8 (λ_ M=>XO L l K tm M) op->AO L (⟨none,op,g,a8⟩::l) k st (SQ Q):=by
   intro op g a8 hg hx;refine aL hr hx hg ?_;intro σ' v v' M' k6 h1 h2 h3;exact ih _ _ h1 σ' _ h3
  have Aj : ∀ (d:Option Nat) (op:DT) (g:Option (Nat × Bool)) (a8:List Nat),EW st g=some false->(match d with|some d=>XO L l K ((d,.e6 [])::tm) M|none=>XO L l K tm M)->AO L (⟨d,op,g,a8⟩::l) k st (SQ Q):=by
   intro d op g a8 hg hx;rw[yP hg];cases d with
   | none=>exact ih _ _ hx σ _ hr
   | some d=>exact ih _ _ hx σ _ (hr.put d rfl)
  obtain ⟨d,op,g,a8⟩:=o;cases g with
  | none =>
   cases d with
   | none=>exact none_ op none a8 rfl h
   | some d =>
    cases op with
    | app s z b x y=>exact Cv d (ex tm x) (.app s z b x y) a8 h
    | _=>exact some_ d _ none a8 rfl h
  | some gw =>
   obtain ⟨g,w⟩:=gw;have h:(match tg tm g with
    | .bool b=>fB (b == w) λ c=>match c,d with
     | true,some d=>XE L tm M a8 (λ v M=>XO L l K ((d,v)::tm) M) op
     | true,none=>XE L tm M a8 (λ_ M=>XO L l K tm M) op
     | false,some d=>XO L l K ((d,.e6 [])::tm) M
     | false,none=>XO L l K tm M
    | .e6 []=>match d with
     | some d=>XO L l K ((d,.e6 [])::tm) M
     | none=>XO L l K tm M
    | _=>False):=by cases d<;>cases op<;>exact h
   split at h
   ·rename_i b e
    rw[P2]at h;have hg:=Aek hr (w:=w) e;cases hb:(b == w)<;>rw[hb]at h hg
    ·exact Aj d op _ a8 hg (by cases d<;>exact h)
    ·cases d with
     | none=>exact none_ op _ a8 hg h
     | some d=>exact some_ d op _ a8 hg h
   ·rename_i e
    exact Aj d op _ a8 (Ael hr e) (by cases d<;>exact h)
   ·exact h.elim
theorem aM {Q:Tm->Mem->Prop} : ∀ {n:Nat} {k:List It} {tm:Tm} {M:Mem},XK L Q n k tm M->AA L k tm M Q
 | 0,k,tm,M,h=>h
 | n+1,[],tm,M,h=>λ σ st hr=>xZ.2 ⟨σ,tm,M,hr,h⟩
 | n+1,it::k,tm,M,h=>by
  have h:XS L Q (XK L Q n) (it::k) tm M:=h;have ih : ∀ k tm M,XK L Q n k tm M->AA L k tm M Q:=λ k tm M h=>aM h
  intro σ st hr;cases it with
  | c7 id=>exact xP.2 (ih _ _ _ h σ st hr)
  | jr ts ss =>
   simp only[XS,Aeb,S0]at h;cases ss with
   | cons s r=>exact h.elim
   | nil =>
    refine xU.2 (ih _ _ _ h σ _ ⟨λ j => ?_,hr.sat⟩);rw[V7,TR,kK,aS,Bool.false_or];cases hc:ts.contains j
    ·simp only[Bool.false_eq_true,if_false,cond_false]
     exact hr.tm j
    ·exact Or.inl rfl
  | lp c=>exact h σ st hr
  | code c =>
   cases c with
   | skip=>exact yE.2 (ih _ _ _ h σ st hr)
   | ops l d=>exact yA.2 (kB h (λ ae M' h'=>ih _ _ _ h') σ st hr)
   | dr c ts ss=>exact xT.2 (ih _ _ _ h σ st hr)
   | scope c=>exact yC.2 (ih _ _ _ h σ st hr)
   | seq a b=>exact yD.2 (ih _ _ _ h σ st hr)
   | cond x a b =>
    simp only[XS]at h;split at h
    ·rename_i b' e
     rw[P2]at h;rw[xR (hr.ev e (by intro e;cases e))];cases b'
     ·simpa using ih _ _ _ h σ st hr
     ·simpa using ih _ _ _ h σ st hr
    ·exact h.elim
   | block id c=>exact xQ.2 (ih _ _ _ h σ st hr)
   | loop c=>exact xX.2 (iW.1 (h σ st hr))
   | exit id =>
    simp only[XS]at h;split at h
    ·rename_i k' e
     exact (xV e).2 (ih _ _ _ h σ st hr)
    ·exact h.elim
   | ret=>exact yB.2 ⟨σ,tm,M,hr,h⟩
theorem AgA (hr:RX σ tm M st) {r:IR} {K:AV->Prop} (h:VS tm M r K) : ∃ v,EX st r=some (BG σ v)/\K v/\BG σ v=BJ σ v:=by
 cases r with
 | tmp t =>
  simp only[VS]at h;obtain ⟨h1,h2,h3⟩:=pC (σ:=σ) h;refine ⟨_,?_,h3,h2⟩;rcases hr.tm t with e|e
  ·exact absurd e h1
  ·simp only[EX,e]
   cases hv:tg tm t<;>rw[hv]at h h1<;>first|rfl|exact (h:False).elim
 | cell t agg n =>
  simp only[VS]at h;split at h
  ·rename_i key i j e
   split at h
   ·rename_i s cs hm
    cases hi:Nat.beq i 0<;>simp only[hi,cond_true,cond_false]at h;obtain rfl:=BQ.1 hi;split at h
    ·rename_i ds hp
     rw[G4]at h;rcases hr.tm t with e'|e'
     ·rw[e]at e';cases e'
     ·have hs:=hr.sat.site _ _ _ hm
      have y9:=hr.sat.c7 _ _ _ (D6 hm);rw[hs]at y9;have flat : ∀ v,II agg (ds.map (A7 σ))=some (BG σ v)->EX st (.cell t agg n)=some (BG σ v):=by
       intro v hv;simp only[EX,e',e,D8,AH.nv,AH.get,hs,y9,A8.c7,List.getElem?_cons_zero,ZA hp,hv]
      cases agg
      ·simp only[qw]at h
       split at h
       ·rename_i c
        obtain ⟨_,h1,h2⟩:=pD (σ:=σ) h;refine ⟨c,flat c (by rw[h1];rfl),h2,?_⟩;rw[h1];cases c<;>first|rfl|exact (h:False).elim
       ·exact h.elim
      ·exact ⟨.agg ds,flat _ rfl,h,rfl⟩
    ·exact h.elim
   ·exact h.elim
  ·exact h.elim
theorem gD (hr:RX σ tm M st) : ∀ {l:List IR} {K:List AV->Prop},ZG tm M l K -> ∃ vs,l.mapM (EX st)=some (vs.map (BG σ))/\K vs/\vs.map (BG σ)=vs.map (BJ σ)
 | [],K,h=>⟨[],rfl,h,rfl⟩
 | r::l,K,h=>by
  obtain ⟨v,h1,h2,h3⟩:=AgA hr (show VS tm M r λ v=>ZG tm M l λ vs=>K (v::vs) from h);obtain ⟨vs,h4,h5,h6⟩:=gD hr h2;exact ⟨v::vs,by rw[List.mapM_cons,h1,h4];rfl,h5,by rw[List.map_cons,List.map_cons,h3,h6]⟩
theorem uZ (hs:GC σ st.own M) {q:Bool} : ∀ {l:List AV} {K:List AV->Prop},gU q M l K -> ∃ l',(l.map (BG σ)).mapM (CW st.own q)=some l'/\K l' /\ ∀ v∈l,BG σ v=BJ σ v
 | [],K,h=>⟨[],rfl,h,λ v hv=>by cases hv⟩
 | v::r,K,h=>by
  obtain ⟨v',h1,h2,_,h0⟩:=ZR hs (show PI q M [] v λ v'=>gU q M r λ r'=>K (v'::r') from h);obtain ⟨l',h3,h4,h5⟩:=uZ hs h2;refine ⟨v'::l',?_,h4,λ u hu => ?_⟩
  ·rw[List.map_cons,List.mapM_cons,show CW st.own q (BG σ v)=some v' from h1,h3];rfl
  ·rcases List.mem_cons.1 hu with rfl|hu
   ·exact h0
   ·exact h5 u hu
theorem Ag9 {own:AH} {q:Bool} {v v':AV} (h:CW own q v=some v'):QF own q v=some v':=by
 cases v with
 | e6 vs=>simp [CW,snap]at h
 | _=>exact h
theorem Afw {f:AV->Option AV} {x y:AV} {r l':List AV} (h:(x::y::r).mapM f=some l') : ∃ a b c,l'=a::b::c:=by
 rw[List.mapM_cons,List.mapM_cons]at h;cases hx:f x with
 | none=>rw[hx]at h;cases h
 | some a =>
  cases hy:f y with
  | none=>rw[hx,hy]at h;cases h
  | some b =>
   cases hr:r.mapM f with
   | none=>rw[hx,hy,hr]at h;cases h
   | some c =>
    rw[hx,hy,hr]at h;exact ⟨a,b,c,(Option.some.inj h).symm⟩
theorem jU {fn:AFn} {r:AV} (hr:RX σ tm M st) (h:PQ fn r tm M):T8 fn r st:=by
 unfold PQ at h;obtain ⟨vs,h1,h2,h3⟩:=gD hr h;obtain ⟨l',h4,h5,h6⟩:=uZ hr.sat h2;unfold T8;rw[h1,Option.map_some,Option.bind_some];match vs,l',h4,h5 with
 | [],l',h4,h5 =>
  obtain rfl:=Option.some.inj h4;obtain ⟨e,hc⟩:=h5;exact ⟨by rw[<-e];rfl,hc⟩
 | [v],l',h4,h5 =>
  rw[List.map_cons,List.map_nil,List.mapM_cons]at h4;cases hv:CW st.own false (BG σ v) with
  | none=>rw[hv]at h4;cases h4
  | some v' =>
   rw[hv]at h4;obtain rfl:=Option.some.inj h4;obtain ⟨e,hc⟩:=h5;exact ⟨by rw[<-e];exact Ag9 hv,hc⟩
 | v::u::w,l',h4,h5 =>
  obtain ⟨a,b,c,rfl⟩:=Afw (show List.mapM (CW st.own false) (BG σ v::BG σ u::w.map (BG σ))=some l' from h4);obtain ⟨e,hc⟩:=h5;refine ⟨?_,hc⟩;rw[<-e];have h4:List.mapM (CW st.own false) (BG σ v::BG σ u::w.map (BG σ))=some (a::b::c):=h4;show Option.map AV.e6 (List.mapM (CW st.own false) (BG σ v::BG σ u::w.map (BG σ)))=_;rw[h4];rfl
def PV:AV->Bool
 | .agg cs=>D4 cs
 | v=>tz v
def KO:List AV->Bool
 | []=>true
 | v::r=>bif PV v then KO r else false
theorem XV {v:AV} (h:PV v=true):BG σ v=v:=by
 cases v with
 | agg cs=>simp only[PV]at h;simp only[BG,BJ,ID h]
 | _=>first|rfl|cases h
theorem XU {σ:E0} : ∀ {vs:List AV} {i:Nat},KO vs=true -> ∀ j,e5 (CN i vs) j=BG σ (e5 (CN i vs) j)
 | [],_,_,_=>rfl
 | v::r,i,h,j=>by
  simp only[KO]at h;cases hv:PV v<;>simp only[hv,cond_true,cond_false]at h
  ·cases h
  ·simp only[AeO,V9]
   split
   ·exact (XV hv).symm
   ·exact XU h j
theorem FJ.x {f:Nat} {fn:AFn} {vs:List AV} {r:AV} (hL:L f=some fn) (hp:Nat.beq vs.length fn.ah=true) (hd:KO vs=true) (h:AA L [.code fn.body] (CN 0 vs) [] (PQ fn r)):FJ L f vs r:=by
 refine FJ.fwd hL (BQ.1 hp) (xY (h (λ_ _=>(0,0)) ⟨CN 0 vs,AH.emp⟩ ⟨λ j=>Or.inr ?_,?_⟩) ?_)
 ·rw[KD];exact XU hd j
 ·exact ⟨(λ_ _ _ e=>by cases e),(λ_ _ _ e=>by simp [a7,b7]at e),(λ_ _ _ e=>by simp [a7,b7]at e),(λ_ _ _ _ _ _ e=>by simp [a7,b7]at e),(λ_ _ _ e=>by simp [a7,b7]at e)⟩
 ·rintro s ⟨σ,tm,M,hr,hq⟩
  exact jU hr hq
theorem Ev.x {f:Nat} {fn:AFn} {vs:List AV} {r:AV} (hL:L f=some fn) (hp:Nat.beq vs.length fn.ah=true) (hd:KO vs=true) (h:AA L [.code fn.body] (CN 0 vs) [] (PQ fn r)) (hs:fn.qb=false:=by rfl):Ev L f vs r:=(FJ.x hL hp hd h).ev hL hs
def FN:List (Nat × Nat)->Nat->Nat
 | [],k=>k
 | (a,b)::r,k=>bif Nat.beq k a then b else FN r k
def ZI (τ:List (Nat × Nat)):AV->AV
 | .row k t z o n => .row (FN τ k) t z o n
 | .ptr k t i j => .ptr (FN τ k) t i j
 | v=>v
def QC (τ:List (Nat × Nat)):List AV->List AV
 | []=>[]
 | v::r=>ZI τ v::QC τ r
def TJ (τ:List (Nat × Nat)):AV->AV
 | .agg cs => .agg (QC τ cs)
 | .fn p f g cs => .fn p f g (QC τ cs)
 | v=>ZI τ v
def ZK (τ:List (Nat × Nat)):List AV->List AV
 | []=>[]
 | v::r=>TJ τ v::ZK τ r
def ZJ (τ:List (Nat × Nat)):AV->AV
 | .e6 cs => .e6 (ZK τ cs)
 | v=>TJ τ v
def ZL (τ:List (Nat × Nat)):List (List AV)->List (List AV)
 | []=>[]
 | v::r=>QC τ v::ZL τ r
def JO (τ:List (Nat × Nat)):A8->A8
 | .bx cs => .bx (QC τ cs)
 | .rw z es => .rw z es
 | .bs z es => .bs z (ZL τ es)
 | .mx rows => .mx rows
 | .hx i v rows => .hx i v rows
 | .vw w rows => .vw w rows
variable {τ:List (Nat × Nat)}
theorem VT : ∀ l:List AV,QC τ l=l.map (ZI τ)
 | []=>rfl
 | v::r=>by rw[QC,VT r];rfl
theorem uB : ∀ l:List AV,ZK τ l=l.map (TJ τ)
 | []=>rfl
 | v::r=>by rw[ZK,uB r];rfl
theorem ZW (v:AV):A7 (λ k t=>σ (FN τ k) t) v=A7 σ (ZI τ v):=by cases v<;>rfl
theorem iB (v:AV):BJ (λ k t=>σ (FN τ k) t) v=BJ σ (TJ τ v):=by
 cases v with
 | agg cs=>simp only[BJ,TJ,VT,List.map_map];exact congrArg AV.agg (List.map_congr_left λ v _=>ZW v)
 | fn p f g cs=>simp only[BJ,TJ,VT,List.map_map];exact congrArg (AV.fn p f g) (List.map_congr_left λ v _=>ZW v)
 | _=>rfl
theorem Ahi (v:AV):BG (λ k t=>σ (FN τ k) t) v=BG σ (ZJ τ v):=by
 cases v with
 | e6 cs=>simp only[BG,ZJ,uB,List.map_map];exact congrArg AV.e6 (List.map_congr_left λ v _=>iB v)
 | agg cs=>exact iB (.agg cs)
 | fn p f g cs=>exact iB (.fn p f g cs)
 | _=>rfl
theorem uC : ∀ l:List (List AV),ZL τ l=l.map (QC τ)
 | []=>rfl
 | v::r=>by rw[ZL,uC r];rfl
theorem VE {k:Nat} : ∀ (rows:List (Option (Nat × List (List AV)))) (i:Nat),B6 (λ k t=>σ (FN τ k) t) k i rows=B6 σ (FN τ k) i rows
 | [],i=>rfl
 | none::r,i=>by rw[B6,B6,VE r]
 | some (z,es)::r,i=>by rw[B6,B6,VE r]
theorem Rt (c:A8) (k:Nat):c.c7 (λ k t=>σ (FN τ k) t) k=(JO τ c).c7 σ (FN τ k):=by
 cases c with
 | bx cs =>
  simp only[A8.c7,JO,VT,List.length_map,List.map_map];rw[List.map_congr_left λ v _=>ZW v];rfl
 | rw z es=>rfl
 | bs z es =>
  simp only[A8.c7,JO,uC,List.map_map];congr 1;refine List.map_congr_left λ cs _ => ?_
  simp only[Function.comp,VT,List.map_map];exact List.map_congr_left λ v _=>ZW v
 | mx rows=>simp only[A8.c7,JO,VE]
 | hx i v rows=>simp only[A8.c7,JO,VE]
 | vw w rows=>simp only[A8.c7,JO,VE]
def vu (k s:Nat) (c:A8):Mem->Mem
 | []=>[(k,s,c)]
 | (j,s',c')::r=>bif Nat.beq k j then (k,s,c)::r else (j,s',c')::vu k s c r
def td:Mem->Mem
 | []=>[]
 | (k,s,c)::r=>vu k s c (td r)
def S9:Mem->(Mem->Prop)->Prop
 | [],K=>K []
 | (k,s,c)::r,K=>S9 r λ r'=>fM (vu k s c r') K
theorem YL : ∀ (M:Mem) (K:Mem->Prop),S9 M K=K (td M)
 | [],_=>rfl
 | (k,s,c)::r,K=>by rw[S9,YL r,O3];rfl
theorem rO (k s:Nat) (c:A8) (j:Nat) : ∀ M:Mem,b7 (vu k s c M) j=bif Nat.beq j k then some (s,c) else b7 M j
 | []=>rfl
 | (i,s',c')::r=>by
  simp only[vu];cases hk:Nat.beq k i
  ·simp only[cond_false,b7,rO k s c j r]
   cases hj:Nat.beq j i<;>cases hjk:Nat.beq j k<;>simp only[cond_true,cond_false];exact absurd ((BQ.1 hjk).symm.trans (BQ.1 hj)) (E7.1 hk)
  ·obtain rfl:=BQ.1 hk
   simp only[cond_true,b7];cases Nat.beq j k<;>rfl
theorem TA (j:Nat) : ∀ M:Mem,b7 (td M) j=b7 M j
 | []=>rfl
 | (k,s,c)::r=>by simp only[td,rO,TA j r,b7]
theorem YR (k t:Nat):a7 (td M) k t=a7 M k t:=by simp only[a7,TA]
def yj (τ:List (Nat × Nat)) (M:Mem):List (Nat × Nat × A8)->List (Option (Nat × A8))
 | []=>[]
 | (k,_,_)::r=>b7 M (FN τ k)::yj τ M r
def yk (τ:List (Nat × Nat)):List (Nat × Nat × A8)->List (Option (Nat × A8))
 | []=>[]
 | (_,s,c)::r=>some (s,JO τ c)::yk τ r
def Iw (tm:Tm):Tm->List AV
 | []=>[]
 | (j,_)::r=>tg tm j::Iw tm r
def Ix (τ:List (Nat × Nat)):Tm->List AV
 | []=>[]
 | (_,v)::r=>ZJ τ v::Ix τ r
def YX:List Nat->Bool
 | []=>true
 | k::r=>bif I7 k r then false else YX r
def keys (τ:List (Nat × Nat)):Mem->List Nat
 | []=>[]
 | (k,_,_)::r=>FN τ k::keys τ r
theorem rN : ∀ {M':Mem} {M:Mem},yj τ M M'=yk τ M' -> ∀ k s c,b7 M' k=some (s,c)->b7 M (FN τ k)=some (s,JO τ c)
 | [],_,_,_,_,_,e=>by cases e
 | (i,s',c')::r,M,h,k,s,c,e=>by
  simp only[yj,yk,List.cons.injEq]at h;simp only[b7]at e;cases hb:Nat.beq k i<;>simp only[hb,cond_true,cond_false]at e
  ·exact rN h.2 k s c e
  ·simp only[Option.some.injEq,Prod.mk.injEq]at e
   obtain ⟨rfl,rfl⟩:=e;rw[BQ.1 hb];exact h.1
theorem eK : ∀ {M:Mem} {k s:Nat} {c:A8},b7 M k=some (s,c)->I7 (FN τ k) (keys τ M)=true
 | (i,s',c')::r,k,s,c,e=>by
  simp only[b7]at e;simp only[keys,I7];cases hb:Nat.beq k i<;>simp only[hb,cond_true,cond_false]at e
  ·rw[eK e];cases Nat.beq (FN τ k) (FN τ i)<;>rfl
  ·rw[BQ.1 hb];simp
theorem sK : ∀ {M:Mem},YX (keys τ M)=true -> ∀ {k k' s s':Nat} {c c':A8},b7 M k=some (s,c)->b7 M k'=some (s',c')->FN τ k=FN τ k'->k=k'
 | [],_,_,_,_,_,_,_,e,_,_=>by cases e
 | (i,s0,c0)::r,h,k,k',s,s',c,c',e,e',hk=>by
  simp only[keys,YX]at h;cases hm:I7 (FN τ i) (keys τ r)<;>simp only[hm,cond_true,cond_false]at h
  ·simp only[b7]at e e'
   cases hb:Nat.beq k i<;>cases j7:Nat.beq k' i<;>simp only[hb,j7,cond_true,cond_false]at e e'
   ·exact sK h e e' hk
   ·obtain rfl:=BQ.1 j7
    have:=eK (τ:=τ) e
    rw[hk,hm]at this;cases this
   ·obtain rfl:=BQ.1 hb
    have:=eK (τ:=τ) e'
    rw[<-hk,hm]at this;cases this
   ·exact (BQ.1 hb).trans (BQ.1 j7).symm
  ·cases h
theorem wJ : ∀ {ae:Tm} {tm:Tm},Iw tm ae=Ix τ ae -> ∀ j,tg ae j = .any\/tg tm j=ZJ τ (tg ae j)
 | [],_,_,_=>Or.inl rfl
 | (i,v)::r,tm,h,j=>by
  simp only[Iw,Ix,List.cons.injEq]at h;simp only[tg];cases hb:Nat.beq j i<;>simp only[cond_true,cond_false]
  ·exact wJ h.2 j
  ·rw[BQ.1 hb];exact Or.inr h.1
def o8 (ts:List Nat) (tm:Tm):Tm:=match ts with
 | []=>tm
 | t::ts=>wc (mask 0 (t::ts)) tm
def IU (τ:List (Nat × Nat)) (tm:Tm) (M:Mem) (ae:Tm) (M':Mem):Prop :=
 fT (wc 0 ae) λ l=>S9 M' λ m=>Iw tm l=Ix τ l/\yj τ M m=yk τ m/\YX (keys τ m)=true
theorem BS {k:List It} {ae:Tm} {M':Mem} {Q:Tm->Mem->Prop} (τ:List (Nat × Nat)) (he:IU τ tm M ae M') (h:AA L k ae M' Q):AA L k tm M Q:=by
 unfold IU at he;rw[S0,YL]at he;obtain ⟨ht,hm,hn⟩:=he;intro σ st hr;have hg : ∀ k s c,b7 M' k=some (s,c)->b7 M (FN τ k)=some (s,JO τ c):=λ k s c e=>rN hm k s c (by rw[TA];exact e)
 have Fu : ∀ k t c,a7 M' k t=some c->a7 M (FN τ k) t=some (JO τ c):=by
  intro k t c e;obtain ⟨s,c0,g1,g2,g3⟩:=GF e;have:=hg k s c0 g1
  cases t with
  | zero=>rw[g2 rfl];exact D6 this
  | succ i =>
   obtain ⟨rows,z,es,(rfl|⟨a,v,rfl⟩)|⟨w,rfl⟩,hr,rfl⟩:=g3 i rfl
   ·simp [a7,this,JO,hr]
   ·simp [a7,this,JO,hr]
   ·simp [a7,this,JO,hr]
 refine h (λ k t=>σ (FN τ k) t) st ⟨λ j => ?_,⟨?_,?_,?_,?_,?_⟩⟩
 ·have:=wJ ht j
  rw[V7,aS,cond_false]at this;rcases this with e|e
  ·exact Or.inl e
  ·rcases hr.tm j with e'|e'
   ·left
    rw[e']at e;cases hv:tg ae j<;>rw[hv]at e<;>first|rfl|cases e
   ·right
    rw[e',e,Ahi]
 ·intro k s c e;exact hr.sat.site _ _ _ (hg k s c e)
 ·intro k t c e;rw[Rt];exact hr.sat.c7 _ _ _ (Fu k t c e)
 ·intro k t c e;exact hr.sat.old _ _ _ (Fu k t c e)
 ·intro k t k' t' c c' e e' hk
  obtain ⟨q1,q2⟩:=hr.sat.inj _ _ _ _ _ _ (Fu _ _ _ e) (Fu _ _ _ e') hk;obtain ⟨s,c0,g,_⟩:=GF e;obtain ⟨s',c0',g',_⟩:=GF e';exact ⟨sK hn (by rw[TA];exact g) (by rw[TA];exact g') q1,q2⟩
 ·intro k t c e hw
  exact hr.sat.low _ _ _ (Fu k t c e) (by cases c<;>exact hw)
theorem BM {k:List It} {ae:Tm} {M':Mem} {Q:Tm->Mem->Prop} (τ:List (Nat × Nat)) (h:AA L k ae M' Q) (he:IU τ tm M ae M':=by (conv=>whnf);exact ⟨rfl,rfl,rfl⟩):AA L k tm M Q:=BS τ he h
theorem iU {k:List It} {Q:Tm->Mem->Prop} (h:AA L k (wc 0 tm) (td M) Q):AA L k tm M Q:=by
 intro σ st hr;refine h σ st ⟨λ j => ?_,⟨?_,?_,?_,?_,?_⟩⟩
 ·rw[V7,aS,cond_false];exact hr.tm j
 ·intro k s c e;rw[TA]at e;exact hr.sat.site _ _ _ e
 ·intro k t c e;rw[YR]at e;exact hr.sat.c7 _ _ _ e
 ·intro k t c e;rw[YR]at e;exact hr.sat.old _ _ _ e
 ·intro k t k' t' c c' e e' hk
  rw[YR]at e e';exact hr.sat.inj _ _ _ _ _ _ e e' hk
 ·intro k t c e hw;rw[YR]at e;exact hr.sat.low _ _ _ e hw
def vy (k:Nat) (c:A8):Mem->Mem
 | []=>[]
 | (j,s,c')::r=>bif Nat.beq k j then (j,s,c)::r else (j,s,c')::vy k c r
theorem YN {k j s:Nat} {c c':A8} : ∀ {M:Mem},b7 (vy k c M) j=some (s,c') -> ∃ c0,b7 M j=some (s,c0)/\(c0=c'\/(j=k/\c'=c))
 | [],e=>by cases e
 | (i,s0,c0)::r,e=>by
  simp only[vy]at e;cases hk:Nat.beq k i<;>simp only[hk,cond_true,cond_false,b7]at e ⊢
  ·cases hj:Nat.beq j i<;>simp only[hj,cond_true,cond_false]at e ⊢
   ·exact YN e
   ·exact ⟨c',e,Or.inl rfl⟩
  ·cases hj:Nat.beq j i<;>simp only[hj,cond_true,cond_false]at e ⊢
   ·exact ⟨c',e,Or.inl rfl⟩
   ·simp only[Option.some.injEq,Prod.mk.injEq]at e
    obtain ⟨rfl,rfl⟩:=e;exact ⟨c0,rfl,Or.inr ⟨(BQ.1 hj).trans (BQ.1 hk).symm,rfl⟩⟩
theorem WG {kk:List It} {Q:Tm->Mem->Prop} (k s:Nat) (e:b7 M k=some (s,.rw 1 [])) (h:AA L kk tm (vy k (.mx []) M) Q):AA L kk tm M Q:=by
 intro σ st hr;have hg : ∀ j t c,a7 (vy k (.mx []) M) j t=some c -> ∃ c0,a7 M j t=some c0/\c0.c7 σ j=c.c7 σ j:=by
  intro j t c g;obtain ⟨s1,c1,g1,g2,g3⟩:=GF g;obtain ⟨c0,q1,q2⟩:=YN g1;cases t with
  | zero =>
   rw[g2 rfl];rcases q2 with rfl|⟨rfl,rfl⟩
   ·exact ⟨_,D6 q1,rfl⟩
   ·rw[e]at q1
    simp only[Option.some.injEq,Prod.mk.injEq]at q1;obtain ⟨rfl,rfl⟩:=q1;exact ⟨_,D6 e,rfl⟩
  | succ i =>
   obtain ⟨rows,z,es,(rfl|⟨a,v,rfl⟩)|⟨w,rfl⟩,Co,rfl⟩:=g3 i rfl
   ·rcases q2 with rfl|⟨rfl,h0⟩
    ·exact ⟨.rw z es,by simp [a7,q1,Co],rfl⟩
    ·obtain rfl:rows=[]:=by simpa using h0
     simp at Co
   ·rcases q2 with rfl|⟨rfl,h0⟩
    ·exact ⟨.rw z es,by simp [a7,q1,Co],rfl⟩
    ·cases h0
   ·rcases q2 with rfl|⟨rfl,h0⟩
    ·exact ⟨.rw z es,by simp [a7,q1,Co],rfl⟩
    ·cases h0
 refine h σ st ⟨hr.tm,⟨?_,?_,?_,?_,?_⟩⟩
 ·intro j s' c g
  obtain ⟨c0,q1,_⟩:=YN g;exact hr.sat.site _ _ _ q1
 ·intro j t c g
  obtain ⟨c0,q1,q2⟩:=hg j t c g;rw[<-q2];exact hr.sat.c7 _ _ _ q1
 ·intro j t c g
  obtain ⟨c0,q1,_⟩:=hg j t c g;exact hr.sat.old _ _ _ q1
 ·intro j t j' t' c c' g g' hj
  obtain ⟨_,q1,_⟩:=hg j t c g;obtain ⟨_,q2,_⟩:=hg j' t' c' g';exact hr.sat.inj _ _ _ _ _ _ q1 q2 hj
 ·intro j t c g hw
  cases t with
  | zero =>
   obtain ⟨s1,c1,g1,g2,g3⟩:=GF g;obtain ⟨c0,q1,q2⟩:=YN g1;have g2:=g2 rfl;subst g2;rcases q2 with rfl|⟨rfl,rfl⟩
   ·exact hr.sat.low _ _ _ (D6 q1) hw
   ·exact hr.sat.low _ _ _ (D6 e) rfl
  | succ t =>
   obtain ⟨c0,q1,_⟩:=hg _ _ _ g;exact hr.sat.low _ _ _ q1 (YS q1)
theorem aB {k:List It} {c:BH} {Q:Tm->Mem->Prop} (h:AA L (.code c :: .lp c::k) tm M Q):AA L (.lp c::k) tm M Q:=λ σ st hr=>iW.2 (h σ st hr)
theorem SB {α:Type} {k:List It} {c:BH} {Q:Tm->Mem->Prop} (m:α->Nat) (P:α->Prop) (vs:α->Tm) (Ms:α->Mem) (ts:List Nat) (τ:List (Nat × Nat)) (a:α)
  (he:IU τ tm M (vs a++o8 ts tm) (Ms a++M)) (hp:P a)
  (step : ∀ a,P a->(∀ a',m a'<m a->P a'->AA L (.lp c::k) (vs a'++o8 ts tm) (Ms a'++M) Q)->AA L (.code c :: .lp c::k) (vs a++o8 ts tm) (Ms a++M) Q):AA L (.lp c::k) tm M Q:=by
 have key : ∀ n a,m a<n->P a->AA L (.lp c::k) (vs a++o8 ts tm) (Ms a++M) Q:=by
  intro n;induction n with
  | zero=>intro a h;omega
  | succ n ih =>
   intro a ha hp;exact aB (step a hp λ a' h1 h2=>ih a' (by omega) h2)
 exact BS τ he (key (m a+1) a (by omega) hp)
end
end Go.b8
namespace Go.b8
section
variable {α:Type} {enc:α->List AV} {l:List α} {L:Lib}
theorem AG {p q A B:Prop} (h1:p->A) (h2:q->B):AF p q A B:=⟨h1,h2⟩
theorem AY {p A:Prop} (h1:p) (h2:A):AQ p A:=⟨h1,h2⟩
section
variable {K:AV->Prop} {a b:Int} {k k':IntKind} {op:BinOp}
theorem WQ {v:AV} (h:C9 op k a k' b=some v) (hk:K v):AC op k a k' b K:=⟨v,h,hk⟩
theorem AZ (hr : -9223372036854775808<=a+b/\a+b<=9223372036854775807) (hk:K (.int .i64 (a+b))):AC .add .i64 a .i64 b K:=⟨_,by simp only[C9,if_true];rw[IntWalk.i64_in _ hr],hk⟩
theorem B1 (hr : -9223372036854775808<=a-b/\a-b<=9223372036854775807) (hk:K (.int .i64 (a-b))):AC .sub .i64 a .i64 b K:=⟨_,by simp only[C9,if_true];rw[IntWalk.i64_in _ hr],hk⟩
theorem N0 (hr : -9223372036854775808<=a*b/\a*b<=9223372036854775807) (hk:K (.int .i64 (a*b))):AC .mul .i64 a .i64 b K:=⟨_,by simp only[C9,if_true];rw[IntWalk.i64_in _ hr],hk⟩
theorem T7 (hb:0<b) (h1:(0<=a\/a%b=0)->0<=a%b->a%b<b->K (.int .i64 (a%b))) (h2:a<0->a%b≠0->0<=a%b->a%b<b->K (.int .i64 (a%b-b))):AC .rem .i64 a .i64 b K:=by
 have h5:0<=a%b:=Int.emod_nonneg _ (by omega);have h6:a%b<b:=Int.emod_lt_of_pos _ hb;have e:C9 .rem .i64 a .i64 b=some (.int .i64 (a.tmod b)):=by simp only[C9];rw[if_pos ⟨trivial,by omega⟩]
 by_cases hc:0<=a\/a%b=0
 ·rw[wK hb,if_pos hc]at e
  exact ⟨_,e,h1 hc h5 h6⟩
 ·rw[wK hb,if_neg hc]at e
  exact ⟨_,e,h2 (by omega) (by omega) h5 h6⟩
theorem QR (hb:0<b) (ha : -9223372036854775808<=a/\a<=9223372036854775807) (h1:(0<=a\/a%b=0)->K (.int .i64 (a/b))) (h2:a<0->a%b≠0->K (.int .i64 (a/b+1))):AC .quo .i64 a .i64 b K:=by
 have hr:=Xo (m:=b) (by omega) ha;have e:C9 .quo .i64 a .i64 b=some (.int .i64 (IntKind.i64.wrap (a.tdiv b))):=by simp only[C9];rw[if_pos ⟨trivial,by omega⟩]
 by_cases hc:0<=a\/a%b=0
 ·rw[wH hb,if_pos hc,IntWalk.i64_in _ hr]at e
  exact ⟨_,e,h1 hc⟩
 ·have Anu:a/b<0:=Int.ediv_neg_of_neg_of_pos (by omega) hb
  rw[wH hb,if_neg hc,IntWalk.i64_in _ (by omega)]at e;exact ⟨_,e,h2 (by omega) (by omega)⟩
theorem zQ (h:0<=b/\b<=63) (hk:K (.int .i64 (a/pw b))):AC .shr .i64 a k' b K:=⟨_,Ag0 h,hk⟩
theorem zV (hk:K (.int k (k.wrap (a+b)))):AC .add k a k b K:=⟨_,by simp only[C9,if_true],hk⟩
theorem CI.neg (hr : -9223372036854775808 <= -a /\ -a<=9223372036854775807) (hk:K (.int .i64 (-a))):CI .neg .i64 a K:=⟨_,by simp only[QI];rw[show (0:Int)-a = -a by omega,IntWalk.i64_in _ hr],hk⟩
theorem CI.go {op:UnOp} {v:AV} (h:QI op (.int k a)=some v) (hk:K v):CI op k a K:=⟨v,h,hk⟩
end
theorem TZ {k:IntKind} {n:Int} {K:Int->Prop} (e:k.wrap n=n) (h:K n):A1 k n K:=⟨by rw[e];exact h⟩
theorem CF {n:Int} {K:Int->Prop} (hr:0<=n/\n<=18446744073709551615) (h:K n):A1 .u64 n K:=TZ (IntWalk.u64_in _ hr) h
theorem QK {n:Int} {K:Int->Prop} (hr : -9223372036854775808<=n/\n<=9223372036854775807) (h:K n):A1 .i64 n K:=TZ (IntWalk.i64_in _ hr) h
theorem BA {a:Int} {z:Nat} {K:List AV->Prop} {e:α} (he:l[a.toNat]? = some e) (h0:0<=a) (hz:(enc e).length=z) (h:K (enc e)):AW (l.map enc) a z K:=⟨h0,enc e,by simp [he],hz,h⟩
theorem jS {a:Int} {z:Nat} {K:List AV->Prop} (h0:0<=a/\a<l.length) (hz : ∀ e,(enc e).length=z) (h : ∀ e,l[a.toNat]? = some e->K (enc e)):AW (l.map enc) a z K:=by
 have he:l[a.toNat]? = some (l[a.toNat]'(by omega)):=zE _;exact BA he h0.1 (hz _) (h _ he)
theorem zZ {n z:Nat} {K:List AV->Prop} (hn:n<l.length) (hz : ∀ e,(enc e).length=z) (h : ∀ e,l[n]? = some e->K (enc e)):AW (l.map enc) (n:Int) z K :=
 jS ⟨by omega,by omega⟩ hz h
theorem E9 {i j n:Nat} {K:List AV->Prop} {f:α->List AV} (hi:i<l.length) (hp : ∀ e,part (enc e) j n=some (f e)) (h : ∀ e,l[i]? = some e->K (f e)):A5 (l.map enc) (0+((i:Int)).toNat) j n K:=by
 have he:l[i]? = some l[i]:=zE _;rw[Nat.zero_add,Int.toNat_natCast];exact ⟨enc l[i],f l[i],by simp [he],hp _,h _ he⟩
theorem zI {i:Int} {j n:Nat} {K:List AV->Prop} {f:α->List AV} (hi:0<=i/\i<l.length) (hp : ∀ e,part (enc e) j n=some (f e)) (h : ∀ e,l[i.toNat]? = some e->K (f e)):A5 (l.map enc) (0+i.toNat) j n K:=by
 have hl:i.toNat<l.length:=by omega
 have he:l[i.toNat]? = some l[i.toNat]:=zE _;rw[Nat.zero_add];exact ⟨enc l[i.toNat],f l[i.toNat],by rw[List.getElem?_map,he];rfl,hp _,h _ he⟩
theorem ET {i:Nat} {vs:List AV} {K:List (List AV)->Prop} (e:α) (he:vs=enc e) (hz : ∀ x,(enc x).length=vs.length) (hi:i<l.length) (h:K ((l.set i e).map enc)):A9 (l.map enc) (0+((i:Int)).toNat) 0 vs K:=by
 rw[Nat.zero_add,Int.toNat_natCast];refine ⟨enc l[i],by simp [zE hi],by rw[hz];omega,?_⟩;rw[show splice (enc l[i]) 0 vs=vs by simp [splice,<-hz l[i]],he,<-List.map_set];exact h
theorem JV {i j n:Nat} {K:List AV->Prop} {e:α} {ds:List AV} (he:l[i]? = some e) (hp:part (enc e) j n=some ds) (h:K ds):A5 (l.map enc) i j n K:=⟨enc e,ds,by simp [he],hp,h⟩
theorem Ahf {cs vs:List AV} (h:cs.length=vs.length):splice cs 0 vs=vs:=by
 simp [splice,<-h]
theorem Tl {i:Nat} {vs:List AV} {K:List (List AV)->Prop} (e:α) (he:vs=enc e) (hz : ∀ x,(enc x).length=vs.length) (hi:i<l.length) (h:K ((l.set i e).map enc)):A9 (l.map enc) i 0 vs K:=by
 refine ⟨enc l[i],by simp [zE hi],by rw[hz];omega,?_⟩;rw[Ahf (hz _),he,<-List.map_set];exact h
theorem EJ {a b:Int} {bytes:Nat} {zero:List AV} {K:List (List AV)->Nat->Prop} (x:α) (n:Nat) (hx:zero=enc x) (hn:a=n) (hr:a<=b/\b*bytes<=140737488355328/\b<=9223372036854775807) (h:K ((List.replicate n x).map enc) n):B4 a b bytes zero K:=by
 subst hn hx;refine ⟨⟨by omega,hr.1,by simpa [EK] using hr.2.1,hr.2.2⟩,?_⟩;simpa using h
theorem AU {K:Nat->Prop} (h:K l.length):AR (l.map enc) K:=⟨by simpa using h⟩
theorem FP {len z bytes:Nat} {vs:List AV} {K:List (List AV)->Nat->Prop} (e:α) (he:vs=enc e) (hl:len=l.length) (hz:vs.length=z) (hr:(l.length+1)*bytes<=140737488355328) (z7:l.length+1<=9223372036854775807) (h:K ((l++[e]).map enc) (l++[e]).length):B3 (l.map enc) len [vs] z bytes K:=by
 subst hl;refine ⟨by simp,by simpa using hz,by simpa [EK] using hr,by simpa using z7,?_⟩;rw[zT (by simp)];simpa [he] using h
theorem WJ {len z bytes:Nat} {l':List α} {K:List (List AV)->Nat->Prop} (hl:len=l.length) (hz : ∀ x,(enc x).length=z) (hr:(l.length+l'.length)*bytes<=140737488355328) (z7:l.length+l'.length<=9223372036854775807) (h:K ((l++l').map enc) (l++l').length):B3 (l.map enc) len (l'.map enc) z bytes K:=by
 subst hl;refine ⟨by simp,by simp [hz],by simpa [EK] using hr,by simpa using z7,?_⟩;rw[zT (by simp)];simpa using h
theorem WI {z bytes:Nat} {vs:List AV} {K:List (List AV)->Nat->Prop} (e:α) (he:vs=enc e) (hz:vs.length=z) (hb:bytes<=140737488355328) (h:K ([e].map enc) 1):CE [vs] z bytes K :=
 ⟨by simpa using hz,by simpa [EK] using hb,by simp,by simpa [he] using h⟩
theorem OJ {z bytes:Nat} {K:List (List AV)->Nat->Prop} (hz : ∀ x,(enc x).length=z) (hr:l.length*bytes<=140737488355328) (z7:l.length<=9223372036854775807) (h:K (l.map enc) l.length):CE (l.map enc) z bytes K :=
 ⟨by simp [hz],by simpa [EK] using hr,by simpa using z7,by simpa using h⟩
theorem UA {off len:Nat} {K:List (List AV)->Prop} (hl:off+len<=l.length) (h:K (((l.drop off).take len).map enc)):BX (l.map enc) off len K :=
 ⟨by simpa using hl,by rw[<-List.map_drop,<-List.map_take];exact h⟩
theorem fJ : ∀ {e:List AV},FG e=true->LY e=true/\e.map nl=e
 | [],_=>⟨rfl,rfl⟩
 | v::r,h=>by
  have hv:FG r=true:=by cases v<;>simp only[FG]at h<;>first|cases h|exact h
  obtain ⟨h1,h2⟩:=fJ hv;cases v<;>simp only[FG]at h<;>first|cases h|exact ⟨h1,by rw[List.map_cons,h2];rfl⟩
theorem sQ : ∀ {es:List (List AV)},(∀ e∈es,FG e=true)->es.map (λ e=>e.map nl)=es
 | [],_=>rfl
 | e::r,h=>by rw[List.map_cons,(fJ (h e List.mem_cons_self)).2,sQ λ x hx=>h x (List.mem_cons_of_mem _ hx)]
theorem UC {es:List (List AV)} {off len:Nat} {K:List (List AV)->Prop} (hl:off+len<=es.length) (hz : ∀ e∈es,FG e=true) (h:K ((es.drop off).take len)):A3 es off len K :=
 ⟨hl,λ e he=>(fJ (hz e he)).1,by rw[sQ λ e he=>hz e (List.mem_of_mem_drop (List.mem_of_mem_take he))];exact h⟩
theorem EE {off len:Nat} {K:List (List AV)->Prop} (hz : ∀ x,FG (enc x)=true) (ho:off=0) (hl:len=l.length) (h:K (l.map enc)):A3 (l.map enc) off len K:=by
 subst hl ho;refine UC (by simp) (λ e he => ?_) (by rw[List.drop_zero,zT (by simp)];exact h);obtain ⟨x,_,rfl⟩:=List.mem_map.1 he;exact hz x
theorem HD {off len:Nat} {K:List (List AV)->Prop} (hz : ∀ x,FG (enc x)=true) (hl:off+len<=l.length) (h:K (((l.drop off).take len).map enc)):A3 (l.map enc) off len K:=by
 refine UC (by simpa using hl) (λ e he => ?_) (by rw[<-List.map_drop,<-List.map_take];exact h);obtain ⟨x,_,rfl⟩:=List.mem_map.1 he;exact hz x
theorem E5 {e:List AV} {K:List (List AV)->Prop} (h:K [e]):BX [e] 0 1 K:=⟨by simp,h⟩
theorem Tk {K:List (List AV)->Prop} (h:K []):A3 [] 0 0 K:=⟨by simp,by simp,h⟩
theorem HM {e:List AV} {K:List (List AV)->Prop} (h0:FG e=true) (h:K [e]):A3 [e] 0 1 K:=UC (by simp) (by simpa using h0) h
theorem PR {e e':List AV} {K:List (List AV)->Prop} (h0:FG e=true) (h1:FG e'=true) (h:K [e,e']):A3 [e,e'] 0 2 K:=UC (by simp) (by simpa using ⟨h0,h1⟩) h
section
variable {β:Type} {z:Nat} {ll:List (List β)} {en:β->List AV}
abbrev BK (z:Nat) (en:β->List AV) (ll:List (List β)):List (Option (Nat × List (List AV))):=ll.map λ r=>some (z,r.map en)
theorem FY {i:Nat} {K:Option (Nat × List (List AV))->Prop} (hi:i<ll.length) (h : ∀ r,ll[i]? = some r->K (some (z,r.map en))):BV (BK z en ll) (0+((i:Int)).toNat) K:=by
 have he:ll[i]? = some ll[i]:=zE _;exact ⟨_,by rw[Nat.zero_add,Int.toNat_natCast,List.getElem?_map,he];rfl,h _ he⟩
theorem zC {i:Nat} {K:Nat->List (List AV)->Prop} {r:List β} (hr:ll[i]? = some r) (h:K z (r.map en)):BN (BK z en ll) i K :=
 ⟨z,r.map en,by rw[List.getElem?_map,hr];rfl,h⟩
theorem GP {i:Nat} {K:Nat->List (List AV)->Prop} {r:List β} (hr:ll[i]? = some r) (h:K z (r.map en)):BN (BK z en ll) (0+((i:Int)).toNat) K:=by
 rw[Nat.zero_add,Int.toNat_natCast];exact zC hr h
theorem zX {i:Nat} {r r':List β} {K:List (Option (Nat × List (List AV)))->Prop} (hl:r'.length=r.length) (h:K (BK z en (ll.set i r'))):CR (BK z en ll) (0+((i:Int)).toNat) z (r.map en) (r'.map en) K:=by
 rw[Nat.zero_add,Int.toNat_natCast];exact ⟨by simpa using hl,by simpa [BK,List.map_set] using h⟩
theorem WH {len bytes:Nat} {r:List β} {K:List (Option (Nat × List (List AV)))->Nat->Prop} (hl:len=ll.length) (hr:(ll.length+1)*bytes<=140737488355328) (z7:ll.length+1<=9223372036854775807) (h:K (BK z en (ll++[r])) (ll++[r]).length):CY (BK z en ll) len (some (z,r.map en)) bytes K:=by
 subst hl;exact ⟨by simp,by simpa [EK] using hr,z7,by simpa [BK] using h⟩
theorem uE (q:Bool) : ∀ ll:List (List β),QD q (BK z en ll)=ll.map λ r=>[AV.sl q (r.map en)]
 | []=>rfl
 | r::l=>by simp only[BK,List.map_cons,QD];rw[show QD q (l.map λ r=>some (z,r.map en))=_ from uE q l]
theorem QS {q:Bool} {off len:Nat} {K:List (List AV)->Prop} (hz : ∀ x,FG (en x)=true) (ho:off=0) (hl:len=ll.length) (h:K (ll.map λ r=>[AV.sl q (r.map en)])):CT q (BK z en ll) off len K:=by
 refine ⟨ho,by simpa using hl,λ z' es hm e he => ?_,by rw[uE];exact h⟩;obtain ⟨r,_,hr⟩:=List.mem_map.1 hm;simp only[Option.some.injEq,Prod.mk.injEq]at hr;obtain ⟨rfl,rfl⟩:=hr;obtain ⟨x,_,rfl⟩:=List.mem_map.1 he;exact hz x
end
theorem yU {len:Nat} {a:Int} {K:Nat->Nat->Prop} (h0:0<=a/\a<=len) (h:K a.toNat len):BW (some a) none len K:=⟨a.toNat,len,⟨h0.1,rfl⟩,rfl,by omega,h⟩
theorem iY {len:Nat} {b:Int} {K:Nat->Nat->Prop} (h0:0<=b/\b<=len) (h:K 0 b.toNat):BW none (some b) len K:=⟨0,b.toNat,rfl,⟨h0.1,h0.2,rfl⟩,by omega,h⟩
theorem iZ {len:Nat} {a b:Int} {K:Nat->Nat->Prop} (h0:0<=a/\a<=b/\b<=len) (h:K a.toNat b.toNat):BW (some a) (some b) len K:=⟨a.toNat,b.toNat,⟨h0.1,rfl⟩,⟨by omega,by omega,rfl⟩,by omega,h⟩
theorem jV {z:Nat} {lo hi:Option Int} {K:List (List AV)->Prop} (hz : ∀ x,(enc x).length=z) (h:BW lo hi l.length λ a h=>K (((l.take h).drop a).map enc)):CD z (l.map enc) lo hi K:=by
 refine ⟨by simp [hz],?_⟩;rw[List.length_map];obtain ⟨a,b,h1,h2,h3,h4⟩:=h;refine ⟨a,b,h1,h2,h3,?_⟩;show K _;rw[<-List.map_take,<-List.map_drop];exact h4
theorem OR {z k:Nat} {K:List (List AV)->Prop} (hz : ∀ x,(enc x).length=z) (hk:k<=l.length) (h:K ((l.take k).map enc)):CD z (l.map enc) none (some (k:Int)) K :=
 jV hz (iY (by omega) (by simpa using h))
theorem Tj {z k:Nat} {K:List (List AV)->Prop} (hz : ∀ x,(enc x).length=z) (hk:k<=l.length) (h:K ((l.drop k).map enc)):CD z (l.map enc) (some (k:Int)) none K :=
 jV hz (yU (by omega) (by simpa using h))
theorem AD {f:Nat} {vs:List AV} {K:AV->Prop} {r:AV} (h:Ev L f vs r) (hk:K r):AB L f vs K:=⟨r,h,hk⟩
theorem jC {f:Nat} {vs:List AV} {K:AV->Prop} {p:Prop} [Decidable p] (h:Ev L f vs (.bool (decide p))) (h1:p->K (.bool true)) (h2 : ¬ p->K (.bool false)):AB L f vs K:=by
 refine ⟨_,h,?_⟩;by_cases e:p
 ·rw[decide_eq_true e];exact h1 e
 ·rw[decide_eq_false e];exact h2 e
theorem AX {a r:AV} (h:a=r) (hc:A2 r):AJ a r:=⟨h,hc⟩
theorem DM {a r:Bool} (h:a=r):AJ (.bool a) (.bool r):=⟨by rw[h],by simp [A2]⟩
theorem yZ {p:Prop} [Decidable p] (h:p):AJ (.bool true) (.bool (decide p)):=⟨by simp [h],by simp [A2]⟩
theorem jI {p:Prop} [Decidable p] (h : ¬ p):AJ (.bool false) (.bool (decide p)):=⟨by simp [h],by simp [A2]⟩
theorem C6 {k:IntKind} {a b:Int} (h:a=b):AJ (.int k a) (.int k b):=⟨by rw[h],by simp [A2]⟩
theorem UN (h : ∀ x,B8 (enc x)) : ∀ l:List α,EZ (l.map enc)
 | []=>by simp [EZ]
 | x::r=>by rw[List.map_cons,EZ];exact ⟨h x,UN h r⟩
end
theorem EI {α:Type} {L:Lib} {k:List It} {cd:BH} {tm:Tm} {M:Mem} {Q:Tm->Mem->Prop} (m:α->Nat) (P:α->Prop) (vs:α->Tm) (Ms:α->Mem) (ts:List Nat) (τ:List (Nat × Nat)) (a:α)
  (he:IU τ tm M (vs a++o8 ts tm) (Ms a++M)) (hp:P a)
  (step : ∀ a,P a->(∀ a',m a'<m a->P a'->AA L (.lp cd::k) (vs a'++o8 ts tm) (Ms a'++M) Q)->AA L (.code cd :: .lp cd::k) (vs a++o8 ts tm) (Ms a++M) Q):AA L (.lp cd::k) tm M Q :=
 SB (α:=α) (λ x=>m x) (λ x=>P x) (λ x=>vs x) (λ x=>Ms x) ts τ a he hp λ a h ih=>step a h λ a' h1 h2=>ih a' h1 h2
theorem WE {α β:Type} {L:Lib} {k:List It} {cd:BH} {tm:Tm} {M:Mem} {Q:Tm->Mem->Prop} (m:α->β->Nat) (P:α->β->Prop) (vs:α->β->Tm) (Ms:α->β->Mem) (ts:List Nat) (τ:List (Nat × Nat)) (a:α) (b:β)
  (he:IU τ tm M (vs a b++o8 ts tm) (Ms a b++M)) (hp:P a b)
  (step : ∀ a b,P a b->(∀ a' b',m a' b'<m a b->P a' b'->AA L (.lp cd::k) (vs a' b'++o8 ts tm) (Ms a' b'++M) Q)->AA L (.code cd :: .lp cd::k) (vs a b++o8 ts tm) (Ms a b++M) Q):AA L (.lp cd::k) tm M Q :=
 SB (α:=α × β) (λ x=>m x.1 x.2) (λ x=>P x.1 x.2) (λ x=>vs x.1 x.2) (λ x=>Ms x.1 x.2) ts τ (a,b) he hp λ⟨a,b⟩ h ih=>step a b h λ a' b' h1 h2=>ih (a',b') h1 h2
theorem xI {α β γ:Type} {L:Lib} {k:List It} {cd:BH} {tm:Tm} {M:Mem} {Q:Tm->Mem->Prop} (m:α->β->γ->Nat) (P:α->β->γ->Prop) (vs:α->β->γ->Tm) (Ms:α->β->γ->Mem) (ts:List Nat) (τ:List (Nat × Nat)) (a:α) (b:β) (c:γ)
  (he:IU τ tm M (vs a b c++o8 ts tm) (Ms a b c++M)) (hp:P a b c)
  (step : ∀ a b c,P a b c->(∀ a' b' c',m a' b' c'<m a b c->P a' b' c'->AA L (.lp cd::k) (vs a' b' c'++o8 ts tm) (Ms a' b' c'++M) Q)->AA L (.code cd :: .lp cd::k) (vs a b c++o8 ts tm) (Ms a b c++M) Q):AA L (.lp cd::k) tm M Q :=
 SB (α:=α × β × γ) (λ x=>m x.1 x.2.1 x.2.2) (λ x=>P x.1 x.2.1 x.2.2) (λ x=>vs x.1 x.2.1 x.2.2) (λ x=>Ms x.1 x.2.1 x.2.2) ts τ (a,b,c) he hp λ⟨a,b,c⟩ h ih=>step a b c h λ a' b' c' h1 h2=>ih (a',b',c') h1 h2
theorem WF {α β γ δ:Type} {L:Lib} {k:List It} {cd:BH} {tm:Tm} {M:Mem} {Q:Tm->Mem->Prop} (m:α->β->γ->δ->Nat) (P:α->β->γ->δ->Prop) (vs:α->β->γ->δ->Tm) (Ms:α->β->γ->δ->Mem) (ts:List Nat) (τ:List (Nat × Nat)) (a:α) (b:β) (c:γ) (d:δ)
  (he:IU τ tm M (vs a b c d++o8 ts tm) (Ms a b c d++M)) (hp:P a b c d)
  (step : ∀ a b c d,P a b c d->(∀ a' b' c' d',m a' b' c' d'<m a b c d->P a' b' c' d'->AA L (.lp cd::k) (vs a' b' c' d'++o8 ts tm) (Ms a' b' c' d'++M) Q)->AA L (.code cd :: .lp cd::k) (vs a b c d++o8 ts tm) (Ms a b c d++M) Q):AA L (.lp cd::k) tm M Q :=
 SB (α:=α × β × γ × δ) (λ x=>m x.1 x.2.1 x.2.2.1 x.2.2.2) (λ x=>P x.1 x.2.1 x.2.2.1 x.2.2.2) (λ x=>vs x.1 x.2.1 x.2.2.1 x.2.2.2) (λ x=>Ms x.1 x.2.1 x.2.2.1 x.2.2.2) ts τ (a,b,c,d) he hp λ⟨a,b,c,d⟩ h ih=>step a b c d h λ a' b' c' d' h1 h2=>ih (a',b',c',d') h1 h2
theorem xJ {α β γ δ ε:Type} {L:Lib} {k:List It} {cd:BH} {tm:Tm} {M:Mem} {Q:Tm->Mem->Prop} (m:α->β->γ->δ->ε->Nat) (P:α->β->γ->δ->ε->Prop) (vs:α->β->γ->δ->ε->Tm) (Ms:α->β->γ->δ->ε->Mem) (ts:List Nat) (τ:List (Nat × Nat)) (a:α) (b:β) (c:γ) (d:δ) (e:ε)
  (he:IU τ tm M (vs a b c d e++o8 ts tm) (Ms a b c d e++M)) (hp:P a b c d e)
  (step : ∀ a b c d e,P a b c d e->(∀ a' b' c' d' e',m a' b' c' d' e'<m a b c d e->P a' b' c' d' e'->AA L (.lp cd::k) (vs a' b' c' d' e'++o8 ts tm) (Ms a' b' c' d' e'++M) Q)->AA L (.code cd :: .lp cd::k) (vs a b c d e++o8 ts tm) (Ms a b c d e++M) Q):AA L (.lp cd::k) tm M Q :=
 SB (α:=α × β × γ × δ × ε) (λ x=>m x.1 x.2.1 x.2.2.1 x.2.2.2.1 x.2.2.2.2) (λ x=>P x.1 x.2.1 x.2.2.1 x.2.2.2.1 x.2.2.2.2) (λ x=>vs x.1 x.2.1 x.2.2.1 x.2.2.2.1 x.2.2.2.2) (λ x=>Ms x.1 x.2.1 x.2.2.1 x.2.2.2.1 x.2.2.2.2) ts τ (a,b,c,d,e) he hp λ⟨a,b,c,d,e⟩ h ih=>step a b c d e h λ a' b' c' d' e' h1 h2=>ih (a',b',c',d',e') h1 h2
theorem xK {α β γ δ ε ζ:Type} {L:Lib} {k:List It} {cd:BH} {tm:Tm} {M:Mem} {Q:Tm->Mem->Prop} (m:α->β->γ->δ->ε->ζ->Nat) (P:α->β->γ->δ->ε->ζ->Prop) (vs:α->β->γ->δ->ε->ζ->Tm) (Ms:α->β->γ->δ->ε->ζ->Mem) (ts:List Nat) (τ:List (Nat × Nat)) (a:α) (b:β) (c:γ) (d:δ) (e:ε) (f:ζ)
  (he:IU τ tm M (vs a b c d e f++o8 ts tm) (Ms a b c d e f++M)) (hp:P a b c d e f)
  (step : ∀ a b c d e f,P a b c d e f->(∀ a' b' c' d' e' f',m a' b' c' d' e' f'<m a b c d e f->P a' b' c' d' e' f'->AA L (.lp cd::k) (vs a' b' c' d' e' f'++o8 ts tm) (Ms a' b' c' d' e' f'++M) Q)->AA L (.code cd :: .lp cd::k) (vs a b c d e f++o8 ts tm) (Ms a b c d e f++M) Q):AA L (.lp cd::k) tm M Q :=
 SB (α:=α × β × γ × δ × ε × ζ) (λ x=>m x.1 x.2.1 x.2.2.1 x.2.2.2.1 x.2.2.2.2.1 x.2.2.2.2.2) (λ x=>P x.1 x.2.1 x.2.2.1 x.2.2.2.1 x.2.2.2.2.1 x.2.2.2.2.2) (λ x=>vs x.1 x.2.1 x.2.2.1 x.2.2.2.1 x.2.2.2.2.1 x.2.2.2.2.2) (λ x=>Ms x.1 x.2.1 x.2.2.1 x.2.2.2.1 x.2.2.2.2.1 x.2.2.2.2.2) ts τ (a,b,c,d,e,f) he hp λ⟨a,b,c,d,e,f⟩ h ih=>step a b c d e f h λ a' b' c' d' e' f' h1 h2=>ih (a',b',c',d',e',f') h1 h2
theorem C5 {α:Type} {L:Lib} {k:List It} {cd:BH} {tm:Tm} {M:Mem} {Q:Tm->Mem->Prop} (m:α->Nat) (P:α->Prop) (vs:α->Tm) (Ms:α->Mem) (a:α)
  (hp:P a)
  (step : ∀ a,P a->(∀ a',m a'<m a->P a'->AA L (.lp cd::k) (vs a'++o8 [] tm) (Ms a'++M) Q)->AA L (.code cd :: .lp cd::k) (vs a++o8 [] tm) (Ms a++M) Q)
  (he:IU [] tm M (vs a++o8 [] tm) (Ms a++M):=by (conv=>whnf);exact ⟨rfl,rfl,rfl⟩):AA L (.lp cd::k) tm M Q :=
 EI m P vs Ms [] [] a he hp step
theorem JS {α β:Type} {L:Lib} {k:List It} {cd:BH} {tm:Tm} {M:Mem} {Q:Tm->Mem->Prop} (m:α->β->Nat) (P:α->β->Prop) (vs:α->β->Tm) (Ms:α->β->Mem) (a:α) (b:β)
  (hp:P a b)
  (step : ∀ a b,P a b->(∀ a' b',m a' b'<m a b->P a' b'->AA L (.lp cd::k) (vs a' b'++o8 [] tm) (Ms a' b'++M) Q)->AA L (.code cd :: .lp cd::k) (vs a b++o8 [] tm) (Ms a b++M) Q)
  (he:IU [] tm M (vs a b++o8 [] tm) (Ms a b++M):=by (conv=>whnf);exact ⟨rfl,rfl,rfl⟩):AA L (.lp cd::k) tm M Q :=
 WE m P vs Ms [] [] a b he hp step
theorem FV {α β γ:Type} {L:Lib} {k:List It} {cd:BH} {tm:Tm} {M:Mem} {Q:Tm->Mem->Prop} (m:α->β->γ->Nat) (P:α->β->γ->Prop) (vs:α->β->γ->Tm) (Ms:α->β->γ->Mem) (a:α) (b:β) (c:γ)
  (hp:P a b c)
  (step : ∀ a b c,P a b c->(∀ a' b' c',m a' b' c'<m a b c->P a' b' c'->AA L (.lp cd::k) (vs a' b' c'++o8 [] tm) (Ms a' b' c'++M) Q)->AA L (.code cd :: .lp cd::k) (vs a b c++o8 [] tm) (Ms a b c++M) Q)
  (he:IU [] tm M (vs a b c++o8 [] tm) (Ms a b c++M):=by (conv=>whnf);exact ⟨rfl,rfl,rfl⟩):AA L (.lp cd::k) tm M Q :=
 xI m P vs Ms [] [] a b c he hp step
theorem AE {L:Lib} {Q:Tm->Mem->Prop} {c:BH} {k:List It} {tm:Tm} {M:Mem} (h:fT (wc 0 tm) λ tm=>S9 M λ M=>XK L Q 500 (.code c::k) tm M):AA L (.code c::k) tm M Q:=by
 rw[S0,YL]at h;exact iU (aM h)
end Go.b8

namespace Go.b8
section
variable {s:Nat} {o o2:AH}
end
section
variable {C:Cl} {a8:List Nat} {ρ:AP->AV} {s:Nat} {o o2:AH}
end
end Go.b8

namespace Go.b8
variable {L:Lib}
def CK (N:Nat):AP->Bool
 | .t n=>Nat.blt n N
 | .c _=>true
def VK (N:Nat):DT->Bool
 | .n0 x=>CK N x
 | .v9 _ _=>true
 | .pick c a b=>CK N c&&(CK N a&&CK N b)
 | .bin _ x y=>CK N x&&CK N y
 | .beq _ x y=>CK N x&&CK N y
 | .un _ x=>CK N x
 | .conv _ x=>CK N x
 | .box _ x=>CK N x
 | .alloc _ _=>true
 | .build _ ps=>ps.all λ p=>CK N p.2.2
 | .b9 _ _ ps=>ps.all (CK N)
 | .u6 x _=>CK N x
 | .oz x _ _ _=>CK N x
 | .q7 _ _ x i=>CK N x&&CK N i
 | .ld _ _ x=>CK N x
 | .st _ x v=>CK N x&&CK N v
 | .mk _ _ _ _ l c=>CK N l&&CK N c
 | .fk _ x lo hi=>CK N x&&((lo.all (CK N))&&(hi.all (CK N)))
 | .ext x _=>CK N x
 | .len x=>CK N x
 | .mm _ xs=>xs.all (CK N)
 | .app _ _ _ x y=>CK N x&&CK N y
 | .call _ xs=>xs.all (CK N)
 | .c9 _ xs=>xs.all (CK N)
 | .ta _ x=>CK N x
 | .gf _ x=>CK N x
 | .bad=>true
 | .mn x=>CK N x
 | .eg x=>CK N x
 | .oa _ _ _ x y=>CK N x&&CK N y
 | .pz _ _ xs=>xs.all (CK N)
 | .m4 x xs=>CK N x&&xs.all (CK N)
 | .j5 _ xs=>xs.all (CK N)
 | .s8 _ _ xs=>xs.all (CK N)
 | .x7 _ _ xs=>xs.all (CK N)
 | .mq _ _ x v=>CK N x&&CK N v
def UD (N:Nat) (a:AI):Bool:=(a.dst.all λ d=>Nat.blt d N)&&((a.guard.all λ g=>Nat.blt g.1 N)&&VK N a.op)
def HO (N:Nat):BH->Bool
 | .skip=>true
 | .ops l _=>l.all (UD N)
 | .dr c ts _=>HO N c&&ts.all λ t=>Nat.blt t N
 | .scope c=>HO N c
 | .seq a b=>HO N a&&HO N b
 | .cond c a b=>CK N c&&(HO N a&&HO N b)
 | .block _ c=>HO N c
 | .loop c=>HO N c
 | .exit _=>true
 | .ret=>true
def P4 (N:Nat):It->Bool
 | .code c=>HO N c
 | .jr ts _=>ts.all λ t=>Nat.blt t N
 | .c7 _=>true
 | .lp c=>HO N c
structure Gh (N:Nat) (G T T':Tm):Prop where
 lo : ∀ j,j<N->e5 T' j=e5 T j
 hi : ∀ j,N<=j->e5 T' j=e5 G j
variable {N:Nat} {G:Tm}
theorem QV {a b:Nat}:Nat.blt a b=true↔a<b:=by simp [Nat.blt];omega
theorem Gh.ev {st:St} {T':Tm} {o:AH} (h:Gh N G st.tm T') {x:AP} (hx:CK N x=true):St.ev ⟨T',o⟩ x=st.ev x:=by
 cases x with
 | t n=>exact h.lo n (QV.1 hx)
 | c v=>rfl
theorem RH {f g:AP->AV} {xs:List AP} (h : ∀ x,CK N x=true->f x=g x) (hx:xs.all (CK N)=true):xs.map f=xs.map g:=by
 apply List.map_congr_left;intro x hm;exact h x (List.all_eq_true.1 hx x hm)
theorem Xq {C:Cl} {a8:List Nat} {ρ ρ':AP->AV} {own:AH} (h : ∀ x,CK N x=true->ρ' x=ρ x) : ∀ (op:DT),VK N op=true->c8 C a8 ρ' own op=c8 C a8 ρ own op:=by
 intro op j9;cases op;case build zero ps =>
  have:(ps.map λ p=>(p.1,p.2.1,ρ' p.2.2))=ps.map λ p=>(p.1,p.2.1,ρ p.2.2):=by
   apply List.map_congr_left;intro p hm;rw[h _ (List.all_eq_true.1 j9 p hm)]
  simp only[c8,this]
 case b9 s a6 ps =>
  have:ps.mapM (λ x=>cellsOf (ρ' x))=ps.mapM (λ x=>cellsOf (ρ x)):=by
   have ti:ps.all (CK N)=true:=j9;clear j9;induction ps with
   | nil=>rfl
   | cons p r ih =>
    simp only[List.all_cons,Bool.and_eq_true]at ti;simp only[List.mapM_cons,h _ ti.1,ih ti.2]
  simp only[c8,this]
 case mm m xs=>simp only[c8,RH h j9]
 case call f xs=>simp only[c8,RH h j9]
 case c9 f xs=>simp only[c8,RH h j9]
 case pz p f xs =>
  have:xs.mapM (λ x=>GH (ρ' x))=xs.mapM (λ x=>GH (ρ x)):=by
   have ti:xs.all (CK N)=true:=j9;clear j9;induction xs with
   | nil=>rfl
   | cons p r ih =>
    simp only[List.all_cons,Bool.and_eq_true]at ti;simp only[List.mapM_cons,h _ ti.1,ih ti.2]
  simp only[c8,this]
 case j5 f xs=>simp only[c8,RH h j9]
 case s8 s f xs=>simp only[c8,RH h j9]
 case x7 s f xs=>simp only[c8,RH h j9]
 case m4 x xs =>
  simp only[VK,Bool.and_eq_true]at j9;simp only[c8,RH h j9.2,h _ j9.1]
 case fk a6 x lo hi =>
  simp only[VK,Bool.and_eq_true]at j9;obtain ⟨h1,h2,h3⟩:=j9;cases lo<;>cases hi<;>simp only[Option.all_some,Option.all_none]at h2 h3<;>simp only[c8,h _ h1,h _,h2,h3]
 all_goals (simp only[VK,Bool.and_eq_true]at j9;simp only[c8,h _,j9])
theorem Gh.dst {T T':Tm} (h:Gh N G T T') {d:Nat} (hd:d<N) (v:AV):Gh N G (gi T d v) (gi T' d v):=by
 constructor
 ·intro j hj
  rw[WA,WA,h.lo j hj]
 ·intro j hj
  rw[WA,h.hi j hj,if_neg (by omega)]
theorem Gh.na {T T':Tm} {o:AH} (h:Gh N G T T') {d:Option Nat} (hd:(d.all λ d=>Nat.blt d N)=true) (v:AV):((⟨T',o⟩:St).dst d v).own=((⟨T,o⟩:St).dst d v).own/\Gh N G ((⟨T,o⟩:St).dst d v).tm ((⟨T',o⟩:St).dst d v).tm:=by
 cases d with
 | none=>exact ⟨rfl,h⟩
 | some d=>exact ⟨rfl,h.dst (QV.1 hd) v⟩
theorem Ahj {C:Cl} {a:AI} (ha:UD N a=true) {T T':Tm} {o:AH} (h:Gh N G T T') {s':St} (hs:CO C a ⟨T',o⟩=some s') : ∃ s,CO C a ⟨T,o⟩=some s/\s'.own=s.own/\Gh N G s.tm s'.tm:=by
 simp only[UD,Bool.and_eq_true]at ha;obtain ⟨h1,h2,h3⟩:=ha;have hg:EW ⟨T',o⟩ a.guard=EW ⟨T,o⟩ a.guard:=by
  cases hgg:a.guard with
  | none=>rfl
  | some g =>
   rw[hgg]at h2;simp only[EW,h.lo _ (QV.1 h2)]
 have he:=Xq (C:=C) (a8:=a.a8) (own:=o) (ρ:=St.ev ⟨T,o⟩) (ρ':=St.ev ⟨T',o⟩) (λ x hx=>Gh.ev (st:=⟨T,o⟩) h hx) a.op h3;unfold CO at hs ⊢;rw[hg,he]at hs;cases Dh:EW ⟨T,o⟩ a.guard with
 | none=>rw[Dh]at hs;cases hs
 | some b =>
  rw[Dh]at hs;cases b with
  | false =>
   simp only[Option.some.injEq]at hs ⊢;subst hs;exact ⟨_,rfl,h.na h1 _⟩
  | true =>
   simp only at hs ⊢;cases Pj:c8 C a.a8 (St.ev ⟨T,o⟩) o a.op with
   | none=>rw[Pj]at hs;cases hs
   | some e =>
    rw[Pj]at hs;simp only[Option.map_some,Option.some.injEq]at hs ⊢;subst hs;refine ⟨_,rfl,?_⟩;cases e with
    | val v=>exact h.na h1 v
    | new s b v=>exact ⟨rfl,(h.na (o:=o) h1 _).2⟩
    | yn s b v=>exact ⟨rfl,(h.na (o:=o) h1 _).2⟩
    | ct v o'=>exact ⟨rfl,(h.na (o:=o) h1 _).2⟩
    | m7 s x=>exact ⟨rfl,(h.na (o:=o) h1 _).2⟩
    | wv s x v=>exact ⟨rfl,(h.na (o:=o) h1 _).2⟩
    | Al s v o'=>exact ⟨rfl,(h.na (o:=o) h1 _).2⟩
theorem vR {C:Cl} : ∀ {l:List AI},l.all (UD N)=true -> ∀ {T T':Tm} {o:AH},Gh N G T T' -> ∀ {s':St},CZ C l ⟨T',o⟩=some s' -> ∃ s,CZ C l ⟨T,o⟩=some s/\s'.own=s.own/\Gh N G s.tm s'.tm
 | [],_,T,T',o,h,s',hs=>by
  simp only[CZ,Option.some.injEq]at hs;subst hs;exact ⟨_,rfl,rfl,h⟩
 | a::l,ha,T,T',o,h,s',hs=>by
  simp only[List.all_cons,Bool.and_eq_true]at ha;simp only[CZ]at hs;cases h1:CO C a ⟨T',o⟩ with
  | none=>rw[h1]at hs;cases hs
  | some s1 =>
   rw[h1]at hs;obtain ⟨s2,e1,e2,e3⟩:=Ahj ha.1 h h1;obtain ⟨T1,o1⟩:=s1;obtain ⟨T2,o2⟩:=s2;simp only at e2 e3;subst e2;obtain ⟨s3,f1,f2,f3⟩:=vR ha.2 e3 hs;exact ⟨s3,by simp only[CZ,e1,f1],f2,f3⟩
theorem U2 {id:Nat} : ∀ {k k':List It},k.all (P4 N)=true->DS id k=some k'->k'.all (P4 N)=true
 | [],_,_,h=>by simp [DS]at h
 | it::k,k',hk,h=>by
  simp only[List.all_cons,Bool.and_eq_true]at hk;cases it with
  | c7 i =>
   simp only[DS]at h;split at h
   ·cases h;exact hk.2
   ·exact U2 hk.2 h
  | code c=>simp only[DS]at h;exact U2 hk.2 h
  | jr a b=>simp only[DS]at h;exact U2 hk.2 h
  | lp c=>simp only[DS]at h;exact U2 hk.2 h
theorem H6 {C:Cl} : ∀ (n:Nat) {k:List It},k.all (P4 N)=true -> ∀ {T T':Tm} {o:AH},Gh N G T T' -> ∀ {s':St},run C n k ⟨T',o⟩=some s' -> ∃ s,run C n k ⟨T,o⟩=some s/\s'.own=s.own/\Gh N G s.tm s'.tm
 | 0,k,_,T,T',o,_,s',hs=>by simp [run]at hs
 | n+1,[],_,T,T',o,h,s',hs=>by
  simp only[run,Option.some.injEq]at hs ⊢;subst hs;exact ⟨_,rfl,rfl,h⟩
 | n+1,.c7 _::k,hk,T,T',o,h,s',hs=>by
  simp only[List.all_cons,Bool.and_eq_true]at hk;simp only[run]at hs ⊢;exact H6 n hk.2 h hs
 | n+1,.jr ts ss::k,hk,T,T',o,h,s',hs=>by
  simp only[List.all_cons,Bool.and_eq_true]at hk;simp only[run]at hs ⊢;refine H6 n hk.2 ⟨λ j hj => ?_,λ j hj => ?_⟩ hs
  ·rw[TR,TR,h.lo j hj]
  ·rw[TR,h.hi j hj,if_neg]
   intro hc;have:=List.all_eq_true.1 hk.1 j (by simpa using hc)
   have:=QV.1 this
   omega
 | n+1,.lp c::k,hk,T,T',o,h,s',hs=>by
  simp only[run]at hs ⊢;have ic:=hk;simp only[List.all_cons,Bool.and_eq_true]at hk;exact H6 n (by simp only[List.all_cons,Bool.and_eq_true];exact ⟨hk.1,hk.1,hk.2⟩) h hs
 | n+1,.code c::k,hk,T,T',o,h,s',hs=>by
  simp only[List.all_cons,Bool.and_eq_true]at hk;obtain ⟨hc,hk⟩:=hk;cases c with
  | skip=>simp only[run]at hs ⊢;exact H6 n hk h hs
  | ops l d =>
   simp only[run]at hs ⊢;cases h1:CZ C l ⟨T',o⟩ with
   | none=>rw[h1]at hs;cases hs
   | some s1 =>
    rw[h1]at hs;obtain ⟨s2,e1,e2,e3⟩:=vR (show l.all (UD N)=true from hc) h h1;obtain ⟨T1,o1⟩:=s1;obtain ⟨T2,o2⟩:=s2;simp only at e2 e3;subst e2;rw[e1];exact H6 n hk e3 hs
  | dr c ts ss =>
   simp only[run]at hs ⊢;simp only[P4,HO,Bool.and_eq_true]at hc;exact H6 n (by simp only[List.all_cons,Bool.and_eq_true];exact ⟨hc.1,hc.2,hk⟩) h hs
  | scope c =>
   simp only[run]at hs ⊢;exact H6 n (by simp only[List.all_cons,Bool.and_eq_true];exact ⟨hc,hk⟩) h hs
  | seq a b =>
   simp only[run]at hs ⊢;simp only[P4,HO,Bool.and_eq_true]at hc;exact H6 n (by simp only[List.all_cons,Bool.and_eq_true];exact ⟨hc.1,hc.2,hk⟩) h hs
  | cond x a b =>
   simp only[P4,HO,Bool.and_eq_true]at hc;simp only[run,Gh.ev (st:=⟨T,o⟩) h hc.1]at hs ⊢;cases hx:St.ev ⟨T,o⟩ x<;>rw[hx]at hs<;>try (simp at hs;done)
   rename_i q;cases q
   ·exact H6 n (by simp only[List.all_cons,Bool.and_eq_true];exact ⟨hc.2.2,hk⟩) h hs
   ·exact H6 n (by simp only[List.all_cons,Bool.and_eq_true];exact ⟨hc.2.1,hk⟩) h hs
  | block id c =>
   simp only[run]at hs ⊢;exact H6 n (by simp only[List.all_cons,Bool.and_eq_true];exact ⟨hc,rfl,hk⟩) h hs
  | loop c =>
   simp only[run]at hs ⊢;exact H6 n (by simp only[List.all_cons,Bool.and_eq_true];exact ⟨hc,hc,hk⟩) h hs
  | exit id =>
   simp only[run]at hs ⊢;cases he:DS id k with
   | none=>rw[he]at hs;cases hs
   | some k' =>
    rw[he]at hs;exact H6 n (U2 hk he) h hs
  | ret =>
   simp only[run,Option.some.injEq]at hs ⊢;subst hs;exact ⟨_,rfl,rfl,h⟩
def F7 (N:Nat):Tm->Tm
 | []=>[]
 | (i,v)::r=>(N+i,v)::F7 N r
def gh (N:Nat):Tm->Tm
 | []=>[]
 | (i,v)::r=>bif Nat.ble N i then (Nat.sub i N,v)::gh N r else gh N r
theorem iM (N j:Nat) : ∀ T:Tm,e5 (F7 N T) (N+j)=e5 T j
 | []=>rfl
 | (i,v)::r=>by
  have ih:=iM N j r;simp only[F7,e5,ih];by_cases h:j=i
  ·simp [h]
  ·rw[if_neg h,if_neg (by omega)]
theorem iN {N j:Nat} (hj:j<N) : ∀ T:Tm,e5 (F7 N T) j = .any
 | []=>rfl
 | (i,v)::r=>by
  simp only[F7,e5,iN hj r];rw[if_neg (by omega)]
theorem iK (N j:Nat) : ∀ T:Tm,e5 (gh N T) j=e5 T (N+j)
 | []=>rfl
 | (i,v)::r=>by
  have ih:=iK N j r;simp only[gh];cases h:Nat.ble N i
  ·have h1 : ¬ N<=i:=λ e=>by rw[Nat.ble_eq_true_of_le e]at h;cases h
   simp only[cond,e5,ih];rw[if_neg (by omega)]
  ·have h1:=Nat.le_of_ble_eq_true h
   simp only[cond,e5,ih];by_cases h2:j=i-N
   ·rw[if_pos (show j=Nat.sub i N from h2),if_pos (by omega)]
   ·rw[if_neg (show ¬ j=Nat.sub i N from h2),if_neg (by omega)]
def LG (f:AV->AV):Tm->Tm
 | []=>[]
 | (i,v)::r=>(i,f v)::LG f r
theorem JQ {f:AV->AV} (hf:f .any = .any) (j:Nat) : ∀ T:Tm,e5 (LG f T) j=f (e5 T j)
 | []=>hf.symm
 | (i,v)::r=>by
  simp only[LG,e5,JQ hf j r];by_cases h:j=i<;>simp [h]
theorem dR (f:AV->AV) : ∀ (i:Nat) (vs:List AV),CN i (vs.map f)=LG f (CN i vs)
 | _,[]=>rfl
 | i,v::r=>by simp only[List.map_cons,CN,LG,dR f (i+1) r]
theorem V8 (j:Nat) (b:Tm) : ∀ a:Tm,((a.any λ p=>p.1 == j)=true/\e5 (a++b) j=e5 a j)\/((a.any λ p=>p.1 == j)=false/\e5 (a++b) j=e5 b j)
 | []=>Or.inr ⟨rfl,rfl⟩
 | (i,v)::r=>by
  by_cases h:j=i
  ·subst h
   exact Or.inl (by simp [e5])
  ·have h' : ¬ i=j:=λ e=>h e.symm
   rcases V8 j b r with ⟨h1,h2⟩|⟨h1,h2⟩
   ·exact Or.inl ⟨by rw[List.any_cons,h1,Bool.or_true],by simp only[List.cons_append,e5,if_neg h,h2]⟩
   ·exact Or.inr ⟨by rw[List.any_cons,h1,Bool.or_false];simpa using h',by simp only[List.cons_append,e5,if_neg h,h2]⟩
theorem dQ (j:Nat) : ∀ (i:Nat) (vs:List AV),((CN i vs).any λ p=>p.1 == j)=true->j<i+vs.length
 | _,[],h=>by simp [CN]at h
 | i,v::r,h=>by
  simp only[CN,List.any_cons,Bool.or_eq_true,beq_iff_eq]at h;rcases h with h|h
  ·simp;omega
  ·have:=dQ j (i+1) r h
   simp;omega
theorem iL (j:Nat) : ∀ (i:Nat) (vs:List AV),((CN i vs).any λ p=>p.1 == j)=false->e5 (CN i vs) j = .any
 | _,[],_=>rfl
 | i,v::r,h=>by
  simp only[CN,List.any_cons,Bool.or_eq_false_iff,beq_eq_false_iff_ne]at h;simp only[CN,e5];rw[if_neg λ e=>h.1 e.symm,iL j (i+1) r h.2]
theorem KC (σ:E0):BG σ .any = .any:=rfl
def QA (tm:Tm):List IR->Option (List AV)
 | []=>some []
 | .tmp t::r=>match HF (tg tm t),QA tm r with
  | some v,some vs=>some (v::vs)
  | _,_=>none
 | .cell _ _ _::_=>none
def VR (N:Nat):List IR->Bool
 | []=>true
 | .tmp t::r=>Nat.blt t N&&VR N r
 | .cell _ _ _::_=>false
def jT (N:Nat) (fn:AFn) (tm:Tm) (K:AV->Mem->Prop) (ae:Tm) (M':Mem):Prop:=gh N ae=tm /\ ∃ rs,QA ae fn.res=some rs/\K (G9 rs) M'
theorem Agz {σ:E0} {v u:AV} (h:HF v=some u):u=v/\BG σ v=BJ σ v/\HF (BG σ v)=some (BG σ v):=by
 cases v<;>simp [HF]at h<;>subst h<;>exact ⟨rfl,rfl,rfl⟩
theorem gC {σ:E0} {ae:Tm} {M:Mem} {s s':St} (hr:RX σ ae M s') (og : ∀ j,j<N->e5 s'.tm j=e5 s.tm j) : ∀ {res:List IR} {rs:List AV},VR N res=true->QA ae res=some rs->res.mapM (EX s)=some (rs.map (BJ σ)) /\ ∀ v∈rs,BG σ v=BJ σ v
 | [],rs,_,h=>by
  simp only[QA,Option.some.injEq]at h;subst h;exact ⟨rfl,by simp⟩
 | .cell _ _ _::_,_,_,h=>by simp [QA]at h
 | .tmp t::r,rs,hl,h=>by
  simp only[VR,Bool.and_eq_true]at hl;simp only[QA]at h;cases h1:HF (tg ae t) with
  | none=>rw[h1]at h;simp at h
  | some v =>
   cases h2:QA ae r with
   | none=>rw[h1,h2]at h;simp at h
   | some vs =>
    rw[h1,h2]at h;simp only[Option.some.injEq]at h;subst h;obtain ⟨i1,i2⟩:=gC hr og hl.2 h2;obtain ⟨rfl,j2,j3⟩:=Agz (σ:=σ) h1;have:e5 s.tm t=BG σ (tg ae t):=by
     rcases hr.tm t with e|e
     ·rw[e]at h1;cases h1
     ·rw[<-og t (QV.1 hl.1),e]
    refine ⟨?_,?_⟩
    ·rw[j2]at j3 this
     simp only[List.mapM_cons,EX,this,j3,i1,List.map_cons];rfl
    ·intro v hv
     simp only[List.mem_cons]at hv;rcases hv with rfl|hv
     ·exact j2
     ·exact i2 v hv
theorem tZ {σ:E0} {rs:List AV} (h : ∀ v∈rs,BG σ v=BJ σ v):G9 (rs.map (BJ σ))=BG σ (G9 rs):=by
 match rs,h with
 | [],_=>rfl
 | [v],h=>exact (h v (by simp)).symm
 | _::_::_,_=>rfl
theorem FW {f:Nat} {fn:AFn} {vs:List AV} {tm:Tm} {M:Mem} {K:AV->Mem->Prop} (N:Nat) (hL:L f=some fn) (hp:Nat.beq vs.length fn.ah=true) (hN:(Nat.ble fn.ah N&&(HO N fn.body&&VR N fn.res))=true)
  (h:AA L [.code fn.body] (CN 0 vs++F7 N tm) M (jT N fn tm K)):A4 L f vs tm M K:=by
 intro σ own hs;simp only[Bool.and_eq_true]at hN;obtain ⟨n1,n2,n3⟩:=hN;have n1:=Nat.le_of_ble_eq_true n1;have hp:vs.length=fn.ah:=Nat.eq_of_beq_eq_true hp;have Mf:RX σ (CN 0 vs++F7 N tm) M ⟨LG (BG σ) (CN 0 vs++F7 N tm),own⟩:=⟨λ j=>Or.inr (by rw[KD];exact JQ (KC σ) j _),hs⟩;obtain ⟨n,c,s',hr,σ',ae,M',hR,hg,rs,Mc,hk⟩:=h σ _ Mf;have Le:Gh N (LG (BG σ) (F7 N tm)) (CN 0 (vs.map (BG σ))) (LG (BG σ) (CN 0 vs++F7 N tm)):=by
  constructor
  ·intro j hj
   rw[dR,JQ (KC σ),JQ (KC σ)];rcases V8 j (F7 N tm) (CN 0 vs) with ⟨_,e⟩|⟨hn,e⟩
   ·rw[e]
   ·rw[e,iN hj,iL j 0 vs hn]
  ·intro j hj
   rw[JQ (KC σ),JQ (KC σ)];rcases V8 j (F7 N tm) (CN 0 vs) with ⟨hn,e⟩|⟨_,e⟩
   ·have:=dQ j 0 vs hn
    omega
   ·rw[e]
 obtain ⟨s,r1,r2,r3⟩:=H6 n (by simp [P4,n2]) Le hr;obtain ⟨i1,i2⟩:=gC (s:=s) hR r3.lo n3 Mc;refine ⟨G9 rs,s.own,σ',M',GO.intro hL (by simpa using hp) ⟨n,c,s,r1,?_,rfl⟩,?_,?_,hk⟩
 ·rw[i1,Option.map_some,tZ i2]
 ·rw[<-r2];exact hR.sat
 ·intro j
  have e1:tg tm j=tg ae (N+j):=by rw[KD,KD,<-hg,iK]
  rcases hR.tm (N+j) with e|e
  ·rw[e1,e];rfl
  ·rw[e1,<-e,r3.hi (N+j) (by omega),JQ (KC σ),iM,<-KD,e1]
theorem jZ {α:Type} {enc:α->List AV} {l:List α} {i:Nat} {vs:List AV} {K:List (List AV)->Prop} (n:Nat) (e:α) (hn:i=n) (he:vs=enc e) (hz : ∀ x,(enc x).length=vs.length) (hi:n<l.length) (h:K ((l.set n e).map enc)):A9 (l.map enc) i 0 vs K:=by
 subst hn;exact Tl e he hz hi h
theorem GY {x:Int} {len:Nat} {K:Nat->Nat->Prop} (h:Nat) (hx:x=h) (hl:h<=len) (hk:K 0 h):BW none (some x) len K:=⟨0,h,rfl,⟨by omega,by omega,by omega⟩,by omega,hk⟩
theorem yT {x:Int} {len:Nat} {K:Nat->Nat->Prop} (a:Nat) (hx:x=a) (hl:a<=len) (hk:K a len):BW (some x) none len K:=⟨a,len,⟨by omega,by omega⟩,rfl,by omega,hk⟩
end Go.b8

namespace Go.b8
section
variable {K:AV->Prop} {a b:Nat} {k':IntKind}
theorem wrap_u32 (n:Nat):IntKind.u32.wrap (n:Int)=((n%4294967296:Nat):Int):=by rw[IntKind.wrap_u32];omega
theorem AhR (n:Nat):IntKind.u64.wrap (n:Int)=((n%18446744073709551616:Nat):Int):=by
 simp [IntKind.wrap,IntKind.bits,IntKind.signed]
theorem FR (h:a+b<=18446744073709551615) (hk:K (.int .u64 ((a+b:Nat):Int))):AC .add .u64 (a:Int) .u64 (b:Int) K :=
 ⟨_,by simp only[C9,if_true];rw[IntWalk.u64_in _ (by omega)],by simpa using hk⟩
theorem IC (h:b<=a) (h2:a<=18446744073709551615) (hk:K (.int .u64 ((a-b:Nat):Int))):AC .sub .u64 (a:Int) .u64 (b:Int) K :=
 ⟨_,by simp only[C9,if_true];rw[IntWalk.u64_in _ (by omega)],by rw[show (a:Int)-b=((a-b:Nat):Int) by omega];exact hk⟩
theorem WX (h:b<=18446744073709551616) (hk:K (.int .u64 ((EH a b:Nat):Int))):AC .sub .u64 (a:Int) .u64 (b:Int) K :=
 WQ (v := .int .u64 (IntKind.u64.wrap ((a:Int)-b))) (by simp only[C9,if_true]) (by
  have e:IntKind.u64.wrap ((a:Int)-b)=((EH a b:Nat):Int):=by
   rw[R7];simp only[IntKind.wrap,IntKind.bits,IntKind.signed];simp;omega
  rw[e];exact hk)
theorem OM (h:a*b<=18446744073709551615) (hk:K (.int .u64 ((a*b:Nat):Int))):AC .mul .u64 (a:Int) .u64 (b:Int) K :=
 ⟨_,by simp only[C9,if_true];rw[<-Int.natCast_mul,IntWalk.u64_in _ (by omega)],hk⟩
theorem WT (h:0<b) (h2:a<=18446744073709551615) (hk:K (.int .u64 ((a/b:Nat):Int))):AC .quo .u64 (a:Int) .u64 (b:Int) K:=by
 refine ⟨_,by simp only[C9];rw[if_pos ⟨trivial,by omega⟩],?_⟩;rw[IntWalk.u64_quo _ _ ⟨by omega,by omega,by omega⟩,<-Int.natCast_ediv];exact hk
theorem T6 (h:0<b) (hk:K (.int .u64 ((a%b:Nat):Int))):AC .rem .u64 (a:Int) .u64 (b:Int) K:=by
 refine ⟨_,by simp only[C9];rw[if_pos ⟨trivial,by omega⟩],?_⟩;rw[IntWalk.rem_in _ _ (by omega),<-Int.natCast_emod];exact hk
theorem AgZ {k:IntKind} {n:Nat} (hn:n<=k.bits):C9 .shl k (a:Int) k' (n:Int)=some (.int k (k.wrap ((a*2^n:Nat):Int))):=by
 simp only[C9];rw[if_neg (by omega),Int.toNat_natCast,Nat.min_eq_left hn];simp
theorem Ag1 {k:IntKind} {n:Nat} (hn:n<=k.bits):C9 .shr k (a:Int) k' (n:Int)=some (.int k ((a/2^n:Nat):Int)):=by
 simp only[C9];rw[if_neg (by omega),Int.toNat_natCast,Nat.min_eq_left hn,Int.fdiv_eq_ediv_of_nonneg _ (Int.le_of_lt (Int.pow_pos (by omega)))];simp
theorem aI {k:IntKind} {n:Nat} (hn:n<=k.bits) (hk:K (.int k (k.wrap ((a*2^n:Nat):Int)))):AC .shl k (a:Int) k' (n:Int) K:=⟨_,AgZ hn,hk⟩
theorem OO {k:IntKind} {n:Nat} (hn:n<=k.bits) (hk:K (.int k ((a/2^n:Nat):Int))):AC .shr k (a:Int) k' (n:Int) K:=⟨_,Ag1 hn,hk⟩
theorem N1 (h:a<=4294967295) (hk:K (.int .u64 ((a*4294967296:Nat):Int))):AC .shl .u64 (a:Int) k' 32 K:=by
 refine aI (n:=32) (by decide) ?_;rw[AhR,show a*2^32%18446744073709551616=a*4294967296 by omega];exact hk
theorem FA (hk:K (.int .u64 ((a/4294967296:Nat):Int))):AC .shr .u64 (a:Int) k' 32 K:=OO (n:=32) (by decide) hk
theorem WU (hk:K (.int .u64 ((a/9223372036854775808:Nat):Int))):AC .shr .u64 (a:Int) k' 63 K:=OO (n:=63) (by decide) hk
theorem zL (hk:K (.int .u64 ((a/4:Nat):Int))):AC .shr .u64 (a:Int) k' 2 K:=OO (n:=2) (by decide) hk
theorem zK (hk:K (.int .u32 ((a/65536:Nat):Int))):AC .shr .u32 (a:Int) k' 16 K:=OO (n:=16) (by decide) hk
theorem zN (hk:K (.int .u32 ((a/256:Nat):Int))):AC .shr .u32 (a:Int) k' 8 K:=OO (n:=8) (by decide) hk
theorem zJ (hk:K (.int .u32 ((a/2:Nat):Int))):AC .shr .u32 (a:Int) k' 1 K:=OO (n:=1) (by decide) hk
theorem fH (w n:Nat):(BitVec.ofInt w (n:Int)).toNat=n%2^w:=by rw[BitVec.toNat_ofInt];omega
theorem Af0 {n x y:Nat} (hx:x%2^n=0) (hy:y<2^n):x ||| y=x+y:=by
 have e:x=2^n*(x/2^n):=by have:=Nat.mod_add_div x (2^n);omega
 rw[e,<-Nat.two_pow_add_eq_or_of_lt hy]
theorem aH {k:IntKind} (n:Nat) (hx:a%2^n=0) (hy:b<2^n) (h:a+b<2^k.bits) (hw:k.wrap ((a+b:Nat):Int)=((a+b:Nat):Int)) (hk:K (.int k ((a+b:Nat):Int))):AC .or k (a:Int) k (b:Int) K:=by
 refine WQ (v := .int k (k.wrap (BitVec.ofInt k.bits (a:Int) ||| BitVec.ofInt k.bits (b:Int)).toNat)) (by simp only[C9,if_true]) ?_;rw[BitVec.toNat_or,fH,fH,Nat.mod_eq_of_lt (by omega),Nat.mod_eq_of_lt (by omega),Af0 hx hy,hw];exact hk
theorem ON (h:a%4294967296=0/\b<4294967296/\a+b<=18446744073709551615) (hk:K (.int .u64 ((a+b:Nat):Int))):AC .or .u64 (a:Int) .u64 (b:Int) K :=
 aH 32 h.1 h.2.1 (show a+b<18446744073709551616 by omega) (IntWalk.u64_in _ (by omega)) hk
theorem jO (h:a<=18446744073709551615) (hk:K (.int .u64 ((a%4294967296:Nat):Int))):AC .and .u64 (a:Int) .u64 4294967295 K:=by
 refine WQ (v := .int .u64 (IntKind.u64.wrap (BitVec.ofInt IntKind.u64.bits (a:Int) &&& BitVec.ofInt IntKind.u64.bits 4294967295).toNat)) (by simp only[C9,if_true]) ?_;rw[BitVec.toNat_and,fH,show (BitVec.ofInt IntKind.u64.bits 4294967295).toNat=2^32-1 by decide,Nat.and_two_pow_sub_one_eq_mod,show a%2^IntKind.u64.bits=a from Nat.mod_eq_of_lt (show a<18446744073709551616 by omega),IntWalk.u64_in _ (by omega)];exact hk
theorem jN (hk:K (.int .u32 (((a+b)%4294967296:Nat):Int))):AC .add .u32 (a:Int) .u32 (b:Int) K :=
 WQ (v := .int .u32 (IntKind.u32.wrap ((a:Int)+b))) (by simp only[C9,if_true]) (by rw[<-Int.natCast_add,wrap_u32];exact hk)
end
section
variable {K:Int->Prop} {n:Nat}
theorem jF (h:n<=18446744073709551615) (hk:K (n:Int)):A1 .u64 (n:Int) K:=TZ (IntWalk.u64_in _ (by omega)) hk
theorem EA (h:n<=4294967295) (hk:K (n:Int)):A1 .u32 (n:Int) K:=TZ (IntWalk.u32_in _ (by omega)) hk
theorem FI (hk:K ((n%4294967296:Nat):Int)):A1 .u32 (n:Int) K:=⟨by rw[wrap_u32];exact hk⟩
theorem yX (h:n<=255) (hk:K (n:Int)):A1 .u8 (n:Int) K:=TZ (IntWalk.u8_in _ (by omega)) hk
end
theorem W4 {tb:List Nat} {n v:Nat} {K:Nat->Prop} (hv:tb[n]? = some v) (hk:K v):QT tb (n:Int) K:=⟨by omega,v,by rw[Int.toNat_natCast];exact hv,hk⟩
abbrev AL (n:Nat):List AV:=[.int .u32 (n:Int)]
theorem B5 (l:List Nat):EZ (l.map AL):=UN (λ_=>by simp [B8,A2]) l
section
variable {l:List Nat} {K:List AV->Prop}
theorem WZ {n:Nat} (hD:A0 l) (hn:n<l.length) (h : ∀ e,l[n]? = some e->e<4294967296->K (AL e)):AW (l.map AL) (n:Int) 1 K :=
 zZ hn (λ_=>rfl) λ e he=>h e he (hD.at he)
theorem PP {a:Int} (hD:A0 l) (hn:0<=a/\a<l.length) (h : ∀ e,l[a.toNat]? = some e->e<4294967296->K (AL e)):AW (l.map AL) a 1 K :=
 jS hn (λ_=>rfl) λ e he=>h e he (hD.at he)
theorem jL {i:Nat} (hD:A0 l) (hi:i<l.length) (h : ∀ e,l[i]? = some e->e<4294967296->K (AL e)):A5 (l.map AL) (0+((i:Int)).toNat) 0 1 K :=
 E9 (f:=AL) hi (λ_=>rfl) λ e he=>h e he (hD.at he)
theorem QP {i:Int} (hD:A0 l) (hi:0<=i/\i<l.length) (h : ∀ e,l[i.toNat]? = some e->e<4294967296->K (AL e)):A5 (l.map AL) (0+i.toNat) 0 1 K :=
 zI (f:=AL) hi (λ_=>rfl) λ e he=>h e he (hD.at he)
theorem E6 {i v:Nat} {KK:List (List AV)->Prop} (hi:i<l.length) (h:KK ((l.set i v).map AL)):A9 (l.map AL) (0+((i:Int)).toNat) 0 [.int .u32 (v:Int)] KK:=ET (enc:=AL) v rfl (λ_=>rfl) hi h
theorem W3 {i v:Nat} {KK:List (List AV)->Prop} (n:Nat) (hn:i=n) (hi:n<l.length) (h:KK ((l.set n v).map AL)):A9 (l.map AL) i 0 [.int .u32 (v:Int)] KK:=jZ (enc:=AL) n v hn rfl (λ_=>rfl) hi h
end
end Go.b8
namespace Go.b8
variable {L:Lib}
theorem Ev.xE {f:Nat} {fn:AFn} {vs:List AV} {P:AV->Prop} (hL:L f=some fn) (hp:Nat.beq vs.length fn.ah=true) (hd:KO vs=true) (h:AA L [.code fn.body] (CN 0 vs) [] (λ tm M => ∃ r,PQ fn r tm M/\P r)) (hs:fn.qb=false:=by rfl) : ∃ r,Ev L f vs r/\P r:=by
 obtain ⟨n,c,j4,hr,σ,tm,M,hR,r,hq,hP⟩:=h (λ_ _=>(0,0)) ⟨CN 0 vs,AH.emp⟩ ⟨λ j=>Or.inr (by rw[KD];exact XU hd j),⟨(λ_ _ _ e=>by cases e),(λ_ _ _ e=>by simp [a7,b7]at e),(λ_ _ _ e=>by simp [a7,b7]at e),(λ_ _ _ _ _ _ e=>by simp [a7,b7]at e),(λ_ _ _ e=>by simp [a7,b7]at e)⟩⟩;exact ⟨r,Ev.fwd hL (BQ.1 hp) ⟨n,c,j4,hr,jU hR hq⟩ hs,hP⟩
def TF:DT->Bool
 | .v9 .. | .box .. | .alloc .. | .b9 .. | .st .. | .mk .. | .app .. | .c9 .. | .m4 .. | .mq .. | .s8 .. | .oa .. | .x7 .. => false
 | _=>true
def HP:BH->Bool
 | .skip=>true
 | .ops l _=>l.all λ a=>TF a.op
 | .dr c _ ss=>HP c&&ss.isEmpty
 | .scope c=>HP c
 | .seq a b=>HP a&&HP b
 | .cond _ a b=>HP a&&HP b
 | .block _ c=>HP c
 | .loop c=>HP c
 | .exit _=>true
 | .ret=>true
def O5:It->Bool
 | .code c=>HP c
 | .jr _ ss=>ss.isEmpty
 | .c7 _=>true
 | .lp c=>HP c
theorem Xu {C:Cl} {a8:List Nat} {ρ:AP->AV} {own:AH} {op:DT} {E:B9} (ho:TF op=true) (h:c8 C a8 ρ own op=some E) : ∃ v,E = .val v:=by
 cases op<;>first|(simp [TF]at ho;done)|skip
 all_goals simp only[c8]at h
 all_goals
  first
   | (simp only[Option.some.injEq]at h;exact ⟨_,h.symm⟩)
   | (simp only[Option.map_eq_some_iff]at h;obtain ⟨_,_,rfl⟩:=h;exact ⟨_,rfl⟩)
   | skip
 all_goals (repeat' split at h)
 all_goals
  first
   | (cases h;done)
   | (simp only[Option.some.injEq]at h;exact ⟨_,h.symm⟩)
   | (simp only[Option.map_eq_some_iff]at h;obtain ⟨_,_,rfl⟩:=h;exact ⟨_,rfl⟩)
theorem Ahl {C:Cl} {a:AI} (ho:TF a.op=true) {s s':St} (h:CO C a s=some s'):s'.own=s.own:=by
 unfold CO at h;split at h
 ·cases he:c8 C a.a8 s.ev s.own a.op with
  | none=>rw[he]at h;cases h
  | some E =>
   rw[he]at h;obtain ⟨v,rfl⟩:=Xu ho he;simp only[Option.map_some,Option.some.injEq]at h;subst h;simp only[St.app];cases a.dst<;>rfl
 ·simp only[Option.some.injEq]at h
  subst h;cases a.dst<;>rfl
 ·cases h
theorem vS {C:Cl} : ∀ {l:List AI},(l.all λ a=>TF a.op)=true -> ∀ {s s':St},CZ C l s=some s'->s'.own=s.own
 | [],_,s,s',h=>by simp only[CZ,Option.some.injEq]at h;rw[h]
 | a::l,ho,s,s',h=>by
  simp only[List.all_cons,Bool.and_eq_true]at ho;simp only[CZ]at h;cases h1:CO C a s with
  | none=>rw[h1]at h;cases h
  | some s1 =>
   rw[h1]at h;rw[vS ho.2 h,Ahl ho.1 h1]
theorem U3 {id:Nat} : ∀ {k k':List It},k.all O5=true->DS id k=some k'->k'.all O5=true
 | [],_,_,h=>by simp [DS]at h
 | it::k,k',hk,h=>by
  simp only[List.all_cons,Bool.and_eq_true]at hk;cases it with
  | c7 i =>
   simp only[DS]at h;split at h
   ·cases h;exact hk.2
   ·exact U3 hk.2 h
  | code c=>simp only[DS]at h;exact U3 hk.2 h
  | jr a b=>simp only[DS]at h;exact U3 hk.2 h
  | lp c=>simp only[DS]at h;exact U3 hk.2 h
theorem H7 {C:Cl} : ∀ (n:Nat) {k:List It},k.all O5=true -> ∀ {s s':St},run C n k s=some s'->s'.own=s.own
 | 0,k,_,s,s',h=>by simp [run]at h
 | n+1,[],_,s,s',h=>by
  simp only[run,Option.some.injEq]at h;rw[h]
 | n+1,it::k,hk,s,s',h=>by
  have ic:=hk;simp only[List.all_cons,Bool.and_eq_true]at hk;obtain ⟨hi,hk⟩:=hk;cases it with
  | c7 _=>simp only[run]at h;exact H7 n hk h
  | jr ts ss =>
   have:ss=[]:=by simpa [O5] using hi
   subst this;simp only[run]at h;rw[H7 n hk h];rfl
  | lp c=>simp only[run]at h;exact H7 n (by simp only[List.all_cons,Bool.and_eq_true];exact ⟨hi,hi,hk⟩) h
  | code c =>
   cases c with
   | skip=>simp only[run]at h;exact H7 n hk h
   | ops l d =>
    simp only[run]at h;cases h1:CZ C l s with
    | none=>rw[h1]at h;cases h
    | some s1 =>
     rw[h1]at h;rw[H7 n hk h,vS (show (l.all λ a=>TF a.op)=true from hi) h1]
   | dr c ts ss =>
    simp only[run]at h;simp only[O5,HP,Bool.and_eq_true]at hi;exact H7 n (by simp only[List.all_cons,Bool.and_eq_true];exact ⟨hi.1,hi.2,hk⟩) h
   | scope c=>simp only[run]at h;exact H7 n (by simp only[List.all_cons,Bool.and_eq_true];exact ⟨hi,hk⟩) h
   | seq a b =>
    simp only[run]at h;simp only[O5,HP,Bool.and_eq_true]at hi;exact H7 n (by simp only[List.all_cons,Bool.and_eq_true];exact ⟨hi.1,hi.2,hk⟩) h
   | cond x a b =>
    simp only[O5,HP,Bool.and_eq_true]at hi;simp only[run]at h;split at h
    ·exact H7 n (by simp only[List.all_cons,Bool.and_eq_true];exact ⟨hi.1,hk⟩) h
    ·exact H7 n (by simp only[List.all_cons,Bool.and_eq_true];exact ⟨hi.2,hk⟩) h
    ·cases h
   | block id c=>simp only[run]at h;exact H7 n (by simp only[List.all_cons,Bool.and_eq_true];exact ⟨hi,rfl,hk⟩) h
   | loop c=>simp only[run]at h;exact H7 n (by simp only[List.all_cons,Bool.and_eq_true];exact ⟨hi,hi,hk⟩) h
   | exit id =>
    simp only[run]at h;split at h
    ·rename_i k' he
     exact H7 n (U3 hk he) h
    ·cases h
   | ret =>
    simp only[run,Option.some.injEq]at h;rw[h]
def Th (fn:AFn) (r:AV) (tm:Tm) (_M:Mem):Prop := ∃ rs,QA tm fn.res=some rs/\G9 rs=r
def XW:AV->Bool
 | .e6 vs=>KO vs
 | v=>PV v
theorem lX {σ:E0} {v:AV} (h:XW v=true):BG σ v=v:=by
 cases v with
 | e6 vs =>
  simp only[BG];congr 1;simp only[XW]at h;induction vs with
  | nil=>rfl
  | cons v r ih =>
   simp only[KO]at h;cases hv:PV v<;>simp only[hv,cond_true,cond_false]at h
   ·cases h
   ·rw[List.map_cons,ih h]
    congr 1;cases v<;>first|rfl|(simp [PV,tz]at hv;done)|skip
    rename_i cs;exact XV (σ:=σ) (v := .agg cs) hv
 | _=>exact XV (σ:=σ) h
def T9 (L:Lib) (f:Nat) (vs:List AV) (r:AV):Prop:=XW r=true/\(∀ σ:E0,vs.map (BG σ)=vs) /\ ∀ own:AH,GO L f vs own r own
theorem lV {σ:E0} : ∀ {vs:List AV},KO vs=true->vs.map (BG σ)=vs
 | [],_=>rfl
 | v::r,h=>by
  simp only[KO]at h;cases hv:PV v<;>simp only[hv,cond_true,cond_false]at h
  ·cases h
  ·rw[List.map_cons,XV hv,lV h]
theorem Ti {f:Nat} {fn:AFn} {vs:List AV} {r:AV} (hL:L f=some fn) (hp:Nat.beq vs.length fn.ah=true) (hd:KO vs=true) (Gt:HP fn.body=true) (g9:VR 100000 fn.res=true) (hr:XW r=true) (h:AA L [.code fn.body] (CN 0 vs) [] (Th fn r)):T9 L f vs r:=by
 refine ⟨hr,λ σ=>lV hd,λ own => ?_⟩;obtain ⟨n,c,j4,n7,σ,tm,M,hR,rs,Mc,he⟩:=h (λ_ _=>(0,0)) ⟨CN 0 vs,own⟩ ⟨λ j=>Or.inr (by rw[KD];exact XU hd j),⟨(λ_ _ _ e=>by cases e),(λ_ _ _ e=>by simp [a7,b7]at e),(λ_ _ _ e=>by simp [a7,b7]at e),(λ_ _ _ _ _ _ e=>by simp [a7,b7]at e),(λ_ _ _ e=>by simp [a7,b7]at e)⟩⟩;have ho:=H7 n (by simp [O5,Gt]) n7;obtain ⟨i1,i2⟩:=gC (N:=100000) (s:=j4) hR (λ_ _=>rfl) g9 Mc;refine GO.intro hL (BQ.1 hp) ⟨n,c,j4,n7,?_,ho⟩;rw[i1,Option.map_some,tZ i2,he,lX hr]
theorem JU {f:Nat} {vs:List AV} {r:AV} {tm:Tm} {M:Mem} {K:AV->Mem->Prop} (h:T9 L f vs r) (hk:K r M):A4 L f vs tm M K:=by
 intro σ own hs;refine ⟨r,own,σ,M,?_,hs,λ_=>rfl,hk⟩;rw[h.2.1 σ,lX h.1];exact h.2.2 own
end Go.b8

namespace Go.b8
variable {L:Lib}
theorem xO {Q:Tm->Mem->Prop} {c:BH} {k:List It} {tm:Tm} {M:Mem} (n:Nat) (h:fT (wc 0 tm) λ tm=>S9 M λ M=>XK L Q n (.code c::k) tm M):AA L (.code c::k) tm M Q:=by
 rw[S0,YL]at h;exact iU (aM h)
end Go.b8

namespace Go.b8
theorem xD {A w C:List Nat} {i n:Nat} (hi:i=A.length+n) (hn:n<w.length):(A++w++C)[i]? = w[n]? := by
 subst hi;rw[List.append_assoc,List.getElem?_append_right (by omega),Nat.add_sub_cancel_left,List.getElem?_append_left hn]
theorem AhN {A w C:List Nat} {i n v:Nat} (hi:i=A.length+n) (hn:n<w.length):(A++w++C).set i v=A++w.set n v++C:=by
 subst hi;rw[List.append_assoc,List.set_append_right _ _ (by omega),Nat.add_sub_cancel_left,List.set_append_left _ _ hn,List.append_assoc]
theorem N2 {A w C:List Nat} {i v:Nat} {KK:List (List AV)->Prop} (n:Nat) (hi:i=A.length+n) (hn:n<w.length) (h:KK ((A++w.set n v++C).map AL)):A9 ((A++w++C).map AL) i 0 [.int .u32 (v:Int)] KK:=by
 have hl:i<(A++w++C).length:=by simp;omega
 refine jZ (enc:=AL) i v rfl rfl (λ_=>rfl) hl ?_;rw[AhN hi hn];exact h
theorem AfI {W X Vi p q u d c b pr t:Nat} (h:W+q*Vi=X+p*(c+b)) (tf:pr=q*d+c) (ht:t=EH (EH u (pr%4294967296)) b) (hu:u<4294967296) (hb:b<=1) :
  W+p*(t%4294967296)+q*(Vi+p*d)=X+p*u+p*4294967296*(pr/4294967296+t/9223372036854775808):=by
 obtain ⟨h1,_⟩:=ZY hu (show pr%4294967296<4294967296 by omega) hb;rw[<-ht]at h1;have h2:=Nat.mod_add_div pr 4294967296;generalize t%4294967296=w at *;generalize t/9223372036854775808=b' at *;generalize pr%4294967296=pl at *;generalize pr/4294967296=ph at *;have e1:p*(w+pl+b)=p*(u+4294967296*b'):=by rw[h1]
 have e2:p*(pl+4294967296*ph)=p*(q*d+c):=by rw[h2,tf]
 grind
theorem sC {q d c pr:Nat} (hq:q<4294967296) (hd:d<4294967296) (hc:c<4294967296) (tf:pr=q*d+c):pr/4294967296<4294967296/\pr<=18446744073709551615/\q*d<=18446744065119617025:=by
 have:=TC hq hd
 omega
theorem AfG {W X V p q u c b t:Nat} (h:W+q*V=X+p*(c+b)) (ht:t=EH (EH u c) b) (hu:u<4294967296) (hc:c<4294967296) (hb:b<=1) :
  W+p*(t%4294967296)+q*V=X+p*u+p*4294967296*(t/9223372036854775808):=by
 obtain ⟨h1,_⟩:=ZY hu hc hb;rw[<-ht]at h1;generalize t%4294967296=w at *;generalize t/9223372036854775808=b' at *;have e1:p*(w+c+b)=p*(u+4294967296*b'):=by rw[h1]
 grind
theorem AfJ {W X Vi p q u d c b pr w take have' bq:Nat} (h:W+q*Vi=X+p*(c+b)) (tf:pr=c+q*d) (h1:take=pr%4294967296+b) (h2:(have'=u/\bq=0/\take<=u)\/(have'=u+4294967296/\bq=1/\u<take)) (h3:w+take=have') :
  W+p*w+q*(Vi+p*d)=X+p*u+p*4294967296*(pr/4294967296+bq):=by
 have h4:=Nat.mod_add_div pr 4294967296;have h5:w+pr%4294967296+b=u+4294967296*bq:=by omega
 generalize pr%4294967296=pl at *;generalize pr/4294967296=ph at *;have e1:p*(w+pl+b)=p*(u+4294967296*bq):=by rw[h5]
 have e2:p*(pl+4294967296*ph)=p*(c+q*d):=by rw[h4,tf]
 grind
theorem AfH {W X V p q u c b w take have' bq:Nat} (h:W+q*V=X+p*(c+b)) (h1:take=c+b) (h2:(have'=u/\bq=0/\take<=u)\/(have'=u+4294967296/\bq=1/\u<take)) (h3:w+take=have') :
  W+p*w+q*V=X+p*u+p*4294967296*bq:=by
 have h5:w+c+b=u+4294967296*bq:=by omega
 have e1:p*(w+c+b)=p*(u+4294967296*bq):=by rw[h5]
 grind
theorem kD {W X Vi p w d c t:Nat} (h:W+p*c=X+Vi) (ht:t=w+d+c):W+p*(t%4294967296)+p*4294967296*(t/4294967296)=X+p*w+(Vi+p*d):=by
 have h1:=OW W p t;have e:p*t=p*w+p*d+p*c:=by rw[ht];grind
 omega
theorem kC {W X V R p w c:Nat} (h:W+p*c=X+V) (hX:X+p*w+V=R+p*4294967296) (hR:R<p*4294967296) (hW:W<p):W+p*((w+c)%4294967296)=R:=by
 have h1:W+p*(w+c)=R+p*4294967296:=by
  rw[Nat.mul_add];omega
 have h2:=Nat.mod_add_div (w+c) 4294967296;have h3:p*(w+c)=p*((w+c)%4294967296)+p*4294967296*((w+c)/4294967296):=by
  rw[Nat.mul_assoc,<-Nat.mul_add,h2]
 have h4:(w+c)%4294967296<4294967296:=Nat.mod_lt _ (by omega);generalize (w+c)%4294967296=m at *;generalize (w+c)/4294967296=k at *;have h5:W+p*m<p*4294967296:=by
  have:p*m+p<=p*4294967296:=by rw[<-Nat.mul_succ];exact Nat.mul_le_mul_left p (by omega)
  omega
 have h6:k=1:=by
  rcases Nat.lt_trichotomy k 1 with hk|hk|hk
  ·have:k=0:=by omega
   subst this;omega
  ·exact hk
  ·have:p*4294967296*2<=p*4294967296*k:=Nat.mul_le_mul_left _ (by omega)
   omega
 subst h6;omega
theorem Ahy {U V UL VL p u2 v2 v1 top:Nat} (hU:U=UL+p*(u2+4294967296*top)) (hV:V=VL+p*(v2+4294967296*v1)) (Bc:VL<p) (h2:v2<4294967296) (h:U<4294967296*V):top<4294967296*(v1+1):=by
 have h3:V<p*(4294967296*(v1+1)):=by
  have:p*(v2+4294967296*v1)+p<=p*(4294967296*(v1+1)):=by
   rw[<-Nat.mul_succ];exact Nat.mul_le_mul_left p (by omega)
  omega
 have h4:p*(4294967296*top)<=U:=by
  have:p*(4294967296*top)<=p*(u2+4294967296*top):=Nat.mul_le_mul_left p (by omega)
  omega
 have h5:p*(4294967296*top)<p*(4294967296*(4294967296*(v1+1))):=by
  have:p*(4294967296*(4294967296*(v1+1)))=4294967296*(p*(4294967296*(v1+1))):=by grind
  omega
 have:=Nat.lt_of_mul_lt_mul_left h5
 omega
structure Gs (U V v1 v2 u2 top q r:Nat):Prop where
 hq:q*v1+r=top
 hr:r<4294967296
 ge:U/V<=q
theorem Gs.next {U V UL VL p v1 v2 u2 top q r:Nat} (g:Gs U V v1 v2 u2 top q r) (hU:U=UL+p*(u2+4294967296*top)) (hV:V=VL+p*(v2+4294967296*v1)) (qk:UL<p) (v7:0<V) (Hr:U<4294967296*V)
  (h:4294967296<=q\/r*4294967296+u2<q*v2):1<=q/\(q-1)*v1+(r+v1)=top/\U/V<=q-1:=by
 have h1:U/V<q:=by
  rcases h with h|h
  ·exact Aem Hr h v7
  ·exact Aen hU hV qk g.hq h v7
 have hq:=g.hq;clear h g hU hV Hr;generalize U/V=Q at *;obtain ⟨k,rfl⟩ : ∃ k,q=k+1:=⟨q-1,by omega⟩;refine ⟨by omega,?_,by omega⟩;rw[Nat.add_sub_cancel,<-hq,Nat.add_mul];omega
theorem Gs.start {U V UL VL p v1 v2 u2 top:Nat} (hU:U=UL+p*(u2+4294967296*top)) (hV:V=VL+p*(v2+4294967296*v1)) (qk:UL<p) (h2:u2<4294967296) (v7:0<V) (h1:0<v1) (h1b:v1<4294967296):Gs U V v1 v2 u2 top (top/v1) (top%v1):=by
 refine ⟨by rw[Nat.mul_comm];exact Nat.div_add_mod _ _,?_,?_⟩
 ·have:=Nat.mod_lt top h1
  omega
 ·rw[Nat.le_div_iff_mul_le h1]
  exact Aeo hU hV qk h2 v7
theorem S3 {U V UL VL p v1 v2 u2 top q r:Nat} (hU:U=UL+p*(u2+4294967296*top)) (hV:V=VL+p*(v2+4294967296*v1)) (Bc:VL<p) (Im:2147483648<=v1) (Io:v2<4294967296) (Hr:U<4294967296*V) (hq:q*v1+r=top)
  (h:(q<4294967296/\q*v2<=r*4294967296+u2)\/4294967296<=r):q<4294967296/\q<=U/V+1:=by
 rcases h with ⟨h1,h2⟩|h
 ·exact ⟨h1,pV hU hV Bc Im hq h2 h1⟩
 ·have ht:=Ahy hU hV Bc Io Hr
  have vb:q<4294967296:=by
   have h3:q*v1<4294967296*v1:=by omega
   exact Nat.lt_of_mul_lt_mul_right h3
  refine ⟨vb,pV hU hV Bc Im hq ?_ vb⟩;have:=TC vb Io
  omega
theorem R6 (a:List Nat) (k:Nat):val a=val (a.take k)+4294967296^k*val (a.drop k):=by
 rcases Nat.lt_or_ge a.length k with h|h
 ·rw[zT (by omega),List.drop_of_length_le (by omega),IB];omega
 ·exact JR a k h
theorem R5 (a:List Nat) (k:Nat):val (a.drop k)=a.getD k 0+4294967296*val (a.drop (k+1)):=by
 rcases Nat.lt_or_ge k a.length with h|h
 ·rw[GX (zE h),List.getD_eq_getElem?_getD,zE h];rfl
 ·rw[List.drop_of_length_le h,List.drop_of_length_le (by omega),List.getD_eq_getElem?_getD,List.getElem?_eq_none h];rfl
theorem P3 {a:List Nat} (h:A0 a) (k:Nat):a.getD k 0<4294967296:=by
 rw[List.getD_eq_getElem?_getD];cases e:a[k]? with
 | none=>simp
 | some d=>simpa using h.at e
theorem getD_some {a:List Nat} {k d:Nat} (h:a[k]? = some d):d=a.getD k 0:=by rw[List.getD_eq_getElem?_getD,h];rfl
theorem getD_none {a:List Nat} {k:Nat} (h:a.length<=k):0=a.getD k 0:=by rw[List.getD_eq_getElem?_getD,List.getElem?_eq_none h];rfl
theorem Z7 {a:List Nat} (hD:A0 a) {n:Nat} (hn:3<=n) (hl:a.length<=n) : ∃ r,r<4294967296^(n-3)/\val a=r+4294967296^(n-3)*(a.getD (n-3) 0+4294967296*(a.getD (n-2) 0+4294967296*a.getD (n-1) 0)):=by
 refine ⟨val (a.take (n-3)),?_,?_⟩
 ·refine Nat.lt_of_lt_of_le (EY (hD.take _)) (Nat.pow_le_pow_right (by omega) ?_)
  rw[List.length_take];omega
 ·have h1:=R6 a (n-3)
  have h2:=R5 a (n-3);have h3:=R5 a (n-3+1);have h4:=R5 a (n-3+1+1);rw[List.drop_of_length_le (show a.length<=n-3+1+1+1 by omega),IB]at h4;rw[show n-3+1=n-2 by omega]at *;rw[show n-2+1=n-1 by omega]at *;rw[h4,Nat.mul_zero,Nat.add_zero]at h3;rw[h3]at h2;rw[h2]at h1;exact h1
theorem wZ {a:List Nat} (hD:A0 a) {n:Nat} (hn:2<=n) (hl:a.length<=n) : ∃ r,r<4294967296^(n-2)/\val a=r+4294967296^(n-2)*(a.getD (n-2) 0+4294967296*a.getD (n-1) 0):=by
 refine ⟨val (a.take (n-2)),?_,?_⟩
 ·refine Nat.lt_of_lt_of_le (EY (hD.take _)) (Nat.pow_le_pow_right (by omega) ?_)
  rw[List.length_take];omega
 ·have h1:=R6 a (n-2)
  have h2:=R5 a (n-2);have h3:=R5 a (n-2+1);rw[List.drop_of_length_le (show a.length<=n-2+1+1 by omega),IB]at h3;rw[show n-2+1=n-1 by omega]at *;rw[h3,Nat.mul_zero,Nat.add_zero]at h2;rw[h2]at h1;exact h1
theorem PX {a b:Nat} (h:a<=b):(dg a).length<=(dg b).length:=by
 rcases Nat.lt_or_ge (dg b).length (dg a).length with h1|h1
 ·have:=TW h1;omega
 ·exact h1
theorem bJ {p:Nat} (h:p<18446744073709551616):val [p%4294967296,p/4294967296]=p/\A0 [p%4294967296,p/4294967296]:=by
 refine ⟨by simp [val];omega,λ x hx => ?_⟩;simp at hx;omega
theorem GE {a:List Nat} {k d:Nat} (h:a[k]? = some d):a.getD k 0=d:=(getD_some h).symm
theorem dZ {y:List Nat} {s yt:Nat} (hD:A0 y) (yf:y[y.length-1]? = some yt) (hl:1<=y.length) (hs:s<=31) (b3:2147483648<=yt*2^s) (b4:yt*2^s<4294967296):val y*2^s<4294967296^y.length/\4294967296^(y.length-1)*2147483648<=val y*2^s:=by
 have h1:=JR y (y.length-1) (by omega);have h2:=GX yf;rw[List.drop_of_length_le (show y.length<=y.length-1+1 by omega),IB,Nat.mul_zero,Nat.add_zero]at h2;rw[h2]at h1;have h3:=EY (hD.take (y.length-1));rw[List.length_take,Nat.min_eq_left (by omega)]at h3;have e:4294967296^y.length=4294967296^(y.length-1)*4294967296:=by rw[<-Nat.pow_succ,Nat.succ_eq_add_one,show y.length-1+1=y.length by omega]
 rw[e];generalize 4294967296^(y.length-1)=p at *;have hk:(yt+1)*2^s<=4294967296:=by
  have e2:4294967296=2^s*2^(32-s):=by rw[<-Nat.pow_add,show s+(32-s)=32 by omega]
  rw[e2,Nat.mul_comm]at b4;have:=Nat.lt_of_mul_lt_mul_left b4
  rw[e2,Nat.mul_comm];exact Nat.mul_le_mul_left _ this
 have h4:val y+1<=p*(yt+1):=by rw[Nat.mul_add];omega
 have h5:=zR (2^s) h4;have h6:p*((yt+1)*2^s)<=p*4294967296:=Nat.mul_le_mul_left p hk;rw[<-Nat.mul_assoc]at h6;have h7:p*2147483648<=p*(yt*2^s):=Nat.mul_le_mul_left p b3;have h8:p*(yt*2^s)<=val y*2^s:=by rw[<-Nat.mul_assoc];exact zR _ (by omega)
 have h9:=Nat.two_pow_pos s;rw[Nat.add_mul]at h5;exact ⟨by omega,by omega⟩
theorem wL {v:List Nat} {k c d:Nat} (hD:A0 v) (hl:v.length=k+1) (h:4294967296^k*c<=val v) (hd:v[k]? = some d):c<=d:=by
 have h1:=JR v k (by omega);have h2:=GX hd;rw[List.drop_of_length_le (show v.length<=k+1 by omega),IB,Nat.mul_zero,Nat.add_zero]at h2;rw[h2]at h1;have h3:=EY (hD.take k);rw[List.length_take,Nat.min_eq_left (by omega)]at h3;generalize 4294967296^k=p at *;have h4:p*c<p*(d+1):=by rw[Nat.mul_add];omega
 have:=Nat.lt_of_mul_lt_mul_left h4
 omega
theorem mV (o:List Nat) (j n:Nat) (h:j+n<=o.length) : ∃ A W C,A.length=j/\W.length=n/\o=A++W++C:=by
 refine ⟨o.take j,(o.drop j).take n,(o.drop j).drop n,by simp;omega,by simp;omega,?_⟩;rw[List.append_assoc,List.take_append_drop,List.take_append_drop]
theorem mA {A W C:List Nat} (h:A0 (A++W++C)):A0 A/\A0 W/\A0 C:=by
 refine ⟨λ x hx=>h x (by simp [hx]),λ x hx=>h x (by simp [hx]),λ x hx=>h x (by simp [hx])⟩
theorem mX {A W C:List Nat} {j l V:Nat} (hA:A.length=j) (hW:W.length=l+1) (hD:A0 (A++W++C)) (h:val ((A++W++C).drop (j+1))<V) (hV:V<4294967296^l) :
  val C=0/\val W<4294967296*V/\val ((A++W++C).take (j+1))+4294967296^(j+1)*val ((A++W++C).drop (j+1))=val A+4294967296^j*val W:=by
 have h1:=R6 (A++W++C) (j+1);have h2:val (A++W++C)=val A+4294967296^j*(val W+4294967296^(l+1)*val C):=by
  rw[List.append_assoc,TV,TV,hA,hW]
 have h3:=R5 (A++W++C) j;have h4:(A++W++C).drop j=W++C:=by
  rw[List.append_assoc,List.drop_append_of_le_length (by omega),List.drop_of_length_le (by omega)];rfl
 have h5:=P3 hD j;rw[h4,TV,hW]at h3;rw[Nat.pow_succ]at h3;have h6:val C=0:=by
  rcases Nat.eq_zero_or_pos (val C) with h0|h0
  ·exact h0
  ·have:4294967296^l*4294967296*1<=4294967296^l*4294967296*val C:=Nat.mul_le_mul_left _ h0
   omega
 rw[h6,Nat.mul_zero,Nat.add_zero]at h3;refine ⟨h6,by omega,?_⟩;rw[<-h1,h2,h6,Nat.mul_zero,Nat.add_zero]
theorem cA {A W C:List Nat} {j:Nat} (hA:A.length=j) (hC:val C=0):val ((A++W++C).drop j)=val W/\val ((A++W++C).take j)=val A:=by
 rw[List.append_assoc,List.drop_append_of_le_length (by omega),List.drop_of_length_le (by omega),List.take_append_of_le_length (by omega),zT (by omega),List.nil_append,TV,hC];simp
theorem mW {U VA P Q q V W R:Nat} (h:U=VA+P*W+P*4294967296*(Q*V)) (h2:W=q*V+R):U=VA+P*((q+4294967296*Q)*V+R):=by
 rw[h,h2];grind
section
variable {a b:Nat} {K:AV->Prop}
theorem jP (n:Nat) (hx:a%2^n=0) (hy:b<2^n) (h:a+b<=18446744073709551615) (hk:K (.int .u64 ((a+b:Nat):Int))):AC .or .u64 (a:Int) .u64 (b:Int) K :=
 aH n hx hy (show a+b<18446744073709551616 by omega) (IntWalk.u64_in _ (by omega)) hk
theorem WS (n:Nat) (hx:b%2^n=0) (hy:a<2^n) (h:a+b<=18446744073709551615) (hk:K (.int .u64 ((a+b:Nat):Int))):AC .or .u64 (a:Int) .u64 (b:Int) K:=by
 have e:C9 .or .u64 (a:Int) .u64 (b:Int)=C9 .or .u64 (b:Int) .u64 (a:Int):=by
  simp only[C9,if_true,BitVec.or_comm]
 rw[Nat.add_comm]at hk h;have hh:=jP (K:=K) n hx hy h hk;unfold AC at hh ⊢;rw[e];exact hh
end
theorem WR {a:Nat} {K:AV->Prop} (h:a<=18446744069414584319) (hk:K (.int .u64 ((a+4294967296:Nat):Int))):AC .add .u64 (a:Int) .u64 4294967296 K :=
 FR (b:=4294967296) (by omega) hk
theorem IX {l:List Nat} {i e:Nat} {K:List AV->Prop} (he:l[i]? = some e) (h:K (AL e)):A5 (l.map AL) (0+((i:Int)).toNat) 0 1 K :=
 JV (e:=e) (by rw[Nat.zero_add,Int.toNat_natCast];exact he) rfl h
theorem zH {l:List Nat} {i:Int} {e:Nat} {K:List AV->Prop} (he:l[i.toNat]? = some e) (h:K (AL e)):A5 (l.map AL) (0+i.toNat) 0 1 K :=
 JV (e:=e) (by rw[Nat.zero_add];exact he) rfl h
theorem PO {A w C:List Nat} {i e:Nat} {K:List AV->Prop} (n:Nat) (he:w[n]? = some e) (hi:i=A.length+n) (h:K (AL e)):A5 ((A++w++C).map AL) i 0 1 K:=by
 have hn:=(zS he).1;exact JV (e:=e) (by rw[xD hi hn];exact he) rfl h
end Go.b8

namespace Go.b8
def S6 (n s:Nat):Nat:=4294967296^(n-3)*(2^(32-s)*4)
theorem Afl (n s:Nat):0<S6 n s:=Nat.mul_pos (Nat.pow_pos (by omega)) (Nat.mul_pos (Nat.two_pow_pos _) (by omega))
theorem qQ {a:List Nat} (hD:A0 a) {n s d1 d2 d3:Nat} (hn:3<=n) (hl:a.length<=n) (hs:s<=31) (h1:d1=a.getD (n-1) 0) (h2:d2=a.getD (n-2) 0) (h3:d3=a.getD (n-3) 0) :
  ((d1*4294967296+d2)*2^s+d3*2^s/4294967296)/4=val a/S6 n s:=by
 obtain ⟨r,hr,hv⟩:=Z7 hD hn hl;rw[<-h1,<-h2,<-h3]at hv;unfold S6;rw[hv,<-Nat.div_div_eq_div_mul,Nat.add_mul_div_left _ _ (Nat.pow_pos (by omega)),Nat.div_eq_of_lt hr,Nat.zero_add,<-Nat.div_div_eq_div_mul];congr 1;have e:d3+4294967296*(d2+4294967296*d1)=d3+2^(32-s)*(2^s*(d1*4294967296+d2)):=by
  rw[<-Nat.mul_assoc,<-Nat.pow_add,show 32-s+s=32 by omega];omega
 rw[e,Nat.add_mul_div_left _ _ (Nat.two_pow_pos _)];have:=uT (d:=d3) (s:=s) (by omega)
 rw[RU]at this;rw[this,Nat.mul_comm (2^s)];omega
theorem qR {a:List Nat} (hD:A0 a) {n s d1 d2:Nat} (hn:3<=n) (hl:a.length<=n) (h1:d1=a.getD (n-1) 0) (h2:d2=a.getD (n-2) 0) (g9:val a*2^s<4294967296^n) :
  (d1*4294967296+d2)*2^s<=18446744073709551615:=by
 obtain ⟨r,hr,hv⟩:=Z7 hD hn hl;rw[<-h1,<-h2]at hv;generalize a.getD (n-3) 0=d3 at *;have e:4294967296^n=4294967296^(n-3)*(4294967296*18446744073709551616):=by
  rw[show n=n-3+3 by omega,Nat.pow_add,show n-3+3-3=n-3 by omega]
 rw[e,hv]at g9;generalize 4294967296^(n-3)=p at *;have h3:p*(4294967296*((d1*4294967296+d2)*2^s))<p*(4294967296*18446744073709551616):=by
  refine Nat.lt_of_le_of_lt ?_ g9;rw[<-Nat.mul_assoc,<-Nat.mul_assoc];refine zR _ ?_;have h5:p*(4294967296*(d2+4294967296*d1))<=p*(d3+4294967296*(d2+4294967296*d1)):=Nat.mul_le_mul_left p (by omega);rw[Nat.mul_assoc,show d1*4294967296+d2=d2+4294967296*d1 by omega];omega
 have:=Nat.lt_of_mul_lt_mul_left (Nat.lt_of_mul_lt_mul_left h3)
 omega
theorem YU {k s:Nat} (hs:s<=64) (h:k*2^s<=18446744073709551615):k*2^s+2^s<=18446744073709551616:=by
 have e:18446744073709551616=2^(64-s)*2^s:=by rw[<-Nat.pow_add,show 64-s+s=64 by omega]
 have h1:k<2^(64-s):=by
  refine Nat.lt_of_mul_lt_mul_right (a:=2^s) ?_;rw[<-e];omega
 have h2:=zR (2^s) h1;rw[Nat.succ_mul,<-e]at h2;exact h2
theorem qS {a:List Nat} (hD:A0 a) {n s:Nat} (hn:3<=n) (hl:a.length<=n) (hs:s<=31) (g9:val a*2^s<4294967296^n):val a/S6 n s<=4611686018427387904:=by
 rw[<-qQ hD hn hl hs rfl rfl rfl];have h1:=qR hD hn hl rfl rfl g9;have b3:=P3 hD (n-3);have h2:=YU (show s<=64 by omega) h1;obtain ⟨_,h3,_,_⟩:=RV (s:=s) b3 (by omega);rw[RU]at h3;generalize (a.getD (n-1) 0*4294967296+a.getD (n-2) 0)*2^s=T at *;generalize a.getD (n-3) 0*2^s=U at *;omega
theorem qT {V K:Nat} (hK:0<K) : ∃ e:Int,(V:Int)=(K:Int)*((V/K:Nat):Int)+e/\0<=e/\e<=K:=by
 refine ⟨((V%K:Nat):Int),?_,by omega,?_⟩
 ·have:=Nat.div_add_mod V K
  have h2:((K*(V/K)+V%K:Nat):Int)=(V:Int):=by rw[this]
  rw[<-h2];simp
 ·have:=Nat.mod_lt V hK
  omega
def UO (t:Int):Nat:=(t%4294967296).toNat
theorem lF (t:Int):UO t<4294967296:=by unfold UO;omega
theorem bB (t:Int):(UO t:Int)=t%4294967296:=by unfold UO;omega
def PM (f g:Int):Prop:=(0<=f/\f<=2147483647 /\ -2147483647<=g/\g<=0)\/(-2147483647<=f/\f<=0/\0<=g/\g<=2147483647)
theorem uR {f:Int} {d:Nat} (hd:d<4294967296):(0<=f->f<=2147483647->0<=f*d/\f*d<=9223372030412324865)/\(f<=0 -> -2147483647<=f->f*d<=0 /\ -9223372030412324865<=f*d):=by
 constructor
 ·intro h0 h1
  refine ⟨Int.mul_nonneg h0 (by omega),?_⟩;have:f*d<=2147483647*4294967295:=Int.mul_le_mul h1 (by omega) (by omega) (by omega)
  omega
 ·intro h0 h1
  have a1:0<=(-f)*d:=Int.mul_nonneg (by omega) (by omega);have a2:(-f)*d<=2147483647*4294967295:=Int.mul_le_mul (by omega) (by omega) (by omega) (by omega);rw[Int.neg_mul]at a1 a2;omega
theorem PM.Rj {f g:Int} (h:PM f g) {d e:Nat} (hd:d<4294967296) (he:e<4294967296):(-9223372030412324865<=f*d/\f*d<=9223372030412324865)/\(-9223372030412324865<=g*e/\g*e<=9223372030412324865) /\ -9223372030412324865<=f*d+g*e/\f*d+g*e<=9223372030412324865:=by
 obtain ⟨a1,a2⟩:=uR (f:=f) hd;obtain ⟨b1,b2⟩:=uR (f:=g) he;rcases h with ⟨h1,h2,h3,h4⟩|⟨h1,h2,h3,h4⟩
 ·have:=a1 h1 h2;have:=b2 h4 h3;omega
 ·have:=a2 h2 h1;have:=b1 h3 h4;omega
theorem lG {V X Y p c f g d e t:Int} (h:V+p*c=f*X+g*Y) (ht:t=f*d+c+g*e):V+p*(t%4294967296)+p*4294967296*(t/4294967296)=f*(X+p*d)+g*(Y+p*e):=by
 have h1:=Int.emod_add_mul_ediv t 4294967296;have h2:p*(t%4294967296)+p*4294967296*(t/4294967296)=p*t:=by
  rw[Int.mul_assoc,<-Int.mul_add,h1]
 have h3:p*t=f*(p*d)+p*c+g*(p*e):=by rw[ht];grind
 have h4:f*(X+p*d)=f*X+f*(p*d):=by rw[Int.mul_add]
 have h5:g*(Y+p*e)=g*Y+g*(p*e):=by rw[Int.mul_add]
 omega
theorem Vy {V P:Nat} {c R:Int} (hV:V<P) (h:(V:Int)+P*c=R) (h0:0<=R) (h1:R<P):(V:Int)=R:=by
 have hc:c=0:=by
  rcases Int.lt_trichotomy c 0 with hc|hc|hc
  ·have:(P:Int)*c<=P*(-1):=Int.mul_le_mul_of_nonneg_left (by omega) (by omega)
   omega
  ·exact hc
  ·have:(P:Int)*1<=P*c:=Int.mul_le_mul_of_nonneg_left (by omega) (by omega)
   omega
 subst hc;omega
theorem U6 (x y:Nat):Nat.gcd y (x%y)=Nat.gcd x y:=by
 rw[Nat.gcd_comm x y,Nat.gcd_rec y x];exact Nat.gcd_comm _ _
def zv (neg:Bool) (m:List Nat):Int:=bif neg then -(val m:Int) else (val m:Int)
abbrev rZ (q neg:Bool) (m:List Nat):List AV:=[.bool neg,.sl q (m.map AL)]
abbrev eZ (z:Int):List AV:=rZ false (decide (z<0)) (dg z.natAbs)
theorem EM (neg:Bool) (m:List Nat):(zv neg m).natAbs=val m:=by cases neg<;>simp [zv]
theorem ES (z:Int):zv (decide (z<0)) (dg z.natAbs)=z:=by
 unfold zv;rw[BT];by_cases h:z<0
 ·simp [h];omega
 ·simp [h];omega
def Sm (n:Nat) (m:List Nat):Prop:=A0 m/\m.length<=n
theorem Sm.dg {n V:Nat} (h:V<4294967296^n):Sm n (dg V):=⟨DU V,N9.2 h⟩
theorem Sm.le {n n':Nat} {m:List Nat} (h:Sm n m) (hn:n<=n'):Sm n' m:=⟨h.1,by have:=h.2;omega⟩
theorem Sm.val {n:Nat} {m:List Nat} (h:Sm n m):val m<4294967296^n:=Nat.lt_of_lt_of_le (EY h.1) (Nat.pow_le_pow_right (by omega) h.2)
theorem Sm.wo {n:Nat} {m:List Nat} (h:Sm n m):Sm n (Go.b8.dg (Go.b8.val m)):=Sm.dg h.val
theorem EL {z:Int} {b:Bool} {n:Nat} (h1:n=z.natAbs) (h2:b=decide (z<0)):AV.agg [.bool b,.sl false ((dg n).map AL)] = .agg (eZ z):=by rw[h1,h2]
theorem DK (z:Int):A2 (.agg (eZ z)):=by
 simp only[A2,B8,and_true,true_and];exact B5 _
theorem NQ {z:Int} (h:z<0):true=decide (z<0):=by simp [h]
theorem F6 {z:Int} (h:0<=z):false=decide (z<0):=by simp;omega
theorem QE (n:Nat):Sm n []:=⟨SR,Nat.zero_le _⟩
theorem gT {n d:Nat} (hn:1<=n) (hd:d<4294967296):Sm n [d]:=⟨G2 hd,hn⟩
theorem xH (b:Bool):zv b []=0:=by cases b<;>rfl
theorem Sm.low {n V:Nat} {m:List Nat} (h:Sm n m) (hV:V<=Go.b8.val m):Sm n (Go.b8.dg V):=Sm.dg (Nat.lt_of_le_of_lt hV h.val)
theorem Sm.mul {n k:Nat} {a b:List Nat} (ha:Sm n a) (hb:Sm k b) {V:Nat} (hV:V=Go.b8.val a*Go.b8.val b):Sm (n+k) (Go.b8.dg V):=by
 refine Sm.dg ?_;rw[hV,Nat.pow_add];exact Nat.mul_lt_mul_of_le_of_lt (Nat.le_of_lt ha.val) hb.val (Nat.pow_pos (by omega))
theorem Sm.add {n:Nat} {a b:List Nat} (ha:Sm n a) (hb:Sm n b) {V:Nat} (hV:V<=Go.b8.val a+Go.b8.val b):Sm (n+1) (Go.b8.dg V):=by
 refine Sm.dg ?_;have h1:=ha.val;have h2:=hb.val;rw[Nat.pow_succ];omega
theorem HS (V:Nat):(dg V).length=0↔V=0:=by rw[List.length_eq_zero_iff,bL]
theorem D9 (m:List Nat):zv false m=(val m:Int):=rfl
theorem NY (m:List Nat):zv true m = -(val m:Int):=rfl
def n6 (z:Int):Int:=if z<0 then -1 else if 0<z then 1 else 0
theorem gP {z:Int} (h:z<0) : -1=n6 z:=by unfold n6;rw[if_pos h]
theorem gQ {z:Int} (h:0<z):1=n6 z:=by unfold n6;rw[if_neg (by omega),if_pos h]
theorem VX {z:Int} (h:z=0):0=n6 z:=by unfold n6;rw[if_neg (by omega),if_neg (by omega)]
theorem xA {n:Nat} (h:n<18446744073709551616):val [n%4294967296,n/4294967296]=n:=(by simp [val];omega)
end Go.b8
