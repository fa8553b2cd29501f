/-
  The walk by computation is sound: calls, regions, code, loops, functions.
-/
import Derived.Test.YtekdjalmkdjplaaGreatB6
import Derived.Test.YtekdjalmkdjplaaGreatB2
import Derived.Test.YtekdjalmkdjplaaGreatB1
set_option linter.unusedSimpArgs false
set_option linter.unusedVariables false
set_option linter.unnecessarySimpa false
namespace Go.c8
section
variable {σ:EJ} {tm:Tm} {M:Mem} {st:St} {L:Lib} {a7:List Nat}
theorem jJ {own:AE} {q:Bool} {d:Nat} : ∀ {e:List AV},E8 e=true->e.mapM (snap own q d)=some e
 | [],_=>rfl
 | v::r,h=>by
  have hv:snap own q d v=some v/\E8 r=true:=by
   cases v<;>simp only[E8]at h<;>first|cases h|exact ⟨by cases d<;>rfl,h⟩
  rw[List.mapM_cons,hv.1,jJ hv.2];rfl
theorem jL {own:AE} {q:Bool} {d:Nat} : ∀ {e:List AV},KJ e=true->e.mapM (snap own q d)=some (e.map nl)
 | [],_=>rfl
 | v::r,h=>by
  have hv:snap own q d v=some (nl v)/\KJ r=true:=by
   cases v<;>simp only[KJ]at h<;>first|cases h|exact ⟨by cases d<;>rfl,h⟩
  rw[List.mapM_cons,hv.1,jL hv.2];rfl
theorem jK {own:AE} {q:Bool} {d:Nat} : ∀ {es:List (List AV)},(∀ e∈es,KJ e=true)->es.mapM (λ cs:List AV=>cs.mapM (snap own q d))=some (es.map λ e=>e.map nl)
 | [],_=>rfl
 | e::r,h=>by
  rw[List.mapM_cons,jL (h e List.mem_cons_self),jK λ x hx=>h x (List.mem_cons_of_mem _ hx)];rfl
theorem jI {own:AE} {q:Bool} {d:Nat} : ∀ {es:List (List AV)},(∀ e∈es,E8 e=true)->es.mapM (λ cs:List AV=>cs.mapM (snap own q d))=some es
 | [],_=>rfl
 | e::r,h=>by
  rw[List.mapM_cons,jJ (h e List.mem_cons_self),jI λ x hx=>h x (List.mem_cons_of_mem _ hx)];rfl
theorem kV (hs:GH σ st.own M) {q:Bool} {v:AV} {K:AV->Prop} (h:PG q M a7 v K) : ∃ v',(∀ d,snap (st.own.j9 a7) q (d+1) (A0 σ v)=some v')/\K v'/\v ≠ .any/\BC σ v=A0 σ v:=by
 cases v with
 | row key t z off len =>
  have fin : ∀ (z':Nat) (es:List (List AV)),((st.own.j9 a7) (σ key t).1).c7 (σ key t).2=some ⟨z',es⟩->z=z'->A1 es off len (λ es=>K (.sl q es)) -> ∃ v',(∀ d,snap (st.own.j9 a7) q (d+1) (A0 σ (.row key t z off len))=some v')/\K v'/\AV.row key t z off len ≠ .any/\BC σ (.row key t z off len)=A0 σ (.row key t z off len):=by
   intro z' es hb hz h;subst hz;obtain ⟨h1,h2,h3⟩:=h;refine ⟨_,λ d => ?_,h3,(by intro e;cases e),rfl⟩;simp only[A0,snap,DS,AE.get,hb];rw[if_pos ⟨h1,trivial⟩];simp only;rw[jK λ e he=>h2 e (List.mem_of_mem_drop (List.mem_of_mem_take he))];rfl
  simp only[PG]at h;split at h
  ·rename_i s z' es hm
   split at h
   ·cases hz:Nat.beq z z'<;>simp only[hz,cond_true,cond_false]at h
    cases hb:NR s a7<;>simp only[hb,cond_true,cond_false]at h;refine fin z' es ?_ (BI.1 hz) h;have u5:=hs.c7 _ _ _ (D6 hm);rw[hs.site _ _ _ hm]at u5 ⊢;rw[QM hb];exact u5
   ·exact h.elim
  ·rename_i s rows hm
   split at h
   ·exact h.elim
   ·rename_i i
    split at h
    ·obtain ⟨z',es,g,h⟩:=h
     cases hz:Nat.beq z z'<;>simp only[hz,cond_true,cond_false]at h;exact fin z' es (hs.c7 key (i+1) (.rw z' es) (by simp [b7,hm,g])) (BI.1 hz) h
    ·rename_i b r
     cases hb:O4 (b::r)<;>simp only[hb,cond_true,cond_false]at h;obtain ⟨z',es,g,h⟩:=h;cases hz:Nat.beq z z'<;>simp only[hz,cond_true,cond_false]at h;have g':b7 M key (i+1)=some (.rw z' es):=by simp [b7,hm,g]
     refine fin z' es ?_ (BI.1 hz) h;rw[YT (hs.low _ _ _ g' rfl) hb];exact hs.c7 key (i+1) (.rw z' es) g'
  ·exact h.elim
 | int k n=>exact ⟨_,λ d=>rfl,h,(by intro e;cases e),rfl⟩
 | bool b=>exact ⟨_,λ d=>rfl,h,(by intro e;cases e),rfl⟩
 | sl l es=>exact ⟨_,λ d=>rfl,h,(by intro e;cases e),rfl⟩
 | w6 c=>exact ⟨_,λ d=>rfl,h,(by intro e;cases e),rfl⟩
 | nil=>exact ⟨_,λ d=>rfl,h,(by intro e;cases e),rfl⟩
 | _=>exact (h:False).elim
theorem kU (hs:GH σ st.own M) {q:Bool} : ∀ {l:List AV} {K:List AV->Prop},VK q M a7 l K -> ∃ l',(∀ d,(l.map (A0 σ)).mapM (snap (st.own.j9 a7) q (d+1))=some l')/\K l'
 | [],K,h=>⟨[],λ d=>rfl,h⟩
 | v::r,K,h=>by
  obtain ⟨v',h1,h2,_⟩:=kV hs (show PG q M a7 v λ v'=>VK q M a7 r λ r'=>K (v'::r') from h);obtain ⟨l',h3,h4⟩:=kU hs h2;refine ⟨v'::l',λ d => ?_,h4⟩;rw[List.map_cons,List.mapM_cons,h1 d,h3 d];rfl
theorem kT (hs:GH σ st.own M) {q:Bool} : ∀ {l:List (List AV)} {K:List (List AV)->Prop},ZQ q M a7 l K -> ∃ l',(∀ d,(l.map λ cs=>cs.map (A0 σ)).mapM (λ cs:List AV=>cs.mapM (snap (st.own.j9 a7) q (d+1)))=some l')/\K l'
 | [],K,h=>⟨[],λ d=>rfl,h⟩
 | v::r,K,h=>by
  obtain ⟨v',h1,h2⟩:=kU hs (show VK q M a7 v λ v'=>ZQ q M a7 r λ r'=>K (v'::r') from h);obtain ⟨l',h3,h4⟩:=kT hs h2;refine ⟨v'::l',λ d => ?_,h4⟩;rw[List.map_cons,List.mapM_cons,h1 d,h3 d];rfl
theorem ZG {own:AE} {q:Bool} {d:Nat} {k:Nat} : ∀ {rows:List (Option (Nat × List (List AV)))} {i:Nat},(∀ j z es,rows[j]? = some (some (z,es))->(own (σ k (i+j+1)).1).c7 (σ k (i+j+1)).2=some ⟨z,es⟩ /\ ∀ e∈es,E8 e=true) ->
  (BU σ k i rows).mapM (λ cs:List AV=>cs.mapM (snap own q (d+1)))=some (SN q rows)
 | [],i,h=>rfl
 | none::r,i,h=>by
  rw[BU,List.mapM_cons,ZG (i:=i+1) λ j z es hj=>by
   have:=h (j+1) z es (by simpa using hj)
   rwa [show i+(j+1)+1=i+1+j+1 by omega]at this]
  rfl
 | some (z,es)::r,i,h=>by
  rw[BU,List.mapM_cons,ZG (i:=i+1) λ j z es hj=>by
   have:=h (j+1) z es (by simpa using hj)
   rwa [show i+(j+1)+1=i+1+j+1 by omega]at this]
  obtain ⟨h1,h2⟩:=h 0 z es rfl;have:snap own q (d+1) (.row (σ k (i+1)).1 (σ k (i+1)).2 z 0 es.length)=some (.sl q es):=by
   simp only[snap,DS,AE.get];rw[show (own (σ k (i+1)).1).c7 (σ k (i+1)).2=some ⟨z,es⟩ from h1];simp only[Nat.zero_add,Nat.le_refl,and_self,if_true,List.drop_zero];rw[zT (Nat.le_refl _),jI h2];rfl
  rw[List.mapM_cons,this];rfl
theorem kS (hs:GH σ st.own M) {q:Bool} {v:AV} {K:AV->Prop} (h:SR q M a7 v K) : ∃ v',snap (st.own.j9 a7) q 6 (A0 σ v)=some v'/\K v'/\v ≠ .any/\BC σ v=A0 σ v/\CB (st.own.j9 a7) q (A0 σ v)=some v':=by
 have lz:PG q M a7 v K -> ∃ v',snap (st.own.j9 a7) q 6 (A0 σ v)=some v'/\K v'/\v ≠ .any/\BC σ v=A0 σ v/\CB (st.own.j9 a7) q (A0 σ v)=some v':=by
  intro h;obtain ⟨v',h1,h2,h3,h4⟩:=kV hs h;refine ⟨v',h1 5,h2,h3,h4,?_⟩;have:=h1 5
  cases v<;>first|exact this|exact (h:False).elim
 unfold SR at h;split at h
 ·rename_i key z off len
  split at h
  ·rename_i s z' es hm
   cases hz:Nat.beq z z'<;>simp only[hz,cond_true,cond_false]at h;cases hb:NR s a7<;>simp only[hb,cond_true,cond_false]at h;cases ho:Nat.beq off 0<;>simp only[ho,cond_true,cond_false]at h;obtain rfl:=BI.1 hz;obtain rfl:=BI.1 ho;obtain ⟨rfl,h⟩:=h;obtain ⟨l',h1,h2⟩:=kT hs h;have u5:=hs.c7 _ _ _ (D6 hm);rw[hs.site _ _ _ hm]at u5;have key:snap (st.own.j9 a7) q 6 (A0 σ (.row key 0 z 0 es.length))=some (.sl q l'):=by
    simp only[A0,snap,DS,AE.get,hs.site _ _ _ hm];rw[QM hb,u5];simp only[A4.c7,Nat.zero_add,List.length_map,Nat.le_refl,and_self,if_true,List.drop_zero];rw[zT (by simp),h1 4];rfl
   exact ⟨_,key,h2,(by intro e;cases e),rfl,key⟩
  ·rename_i s rows hm
   split at h
   ·cases hz:Nat.beq z 1<;>simp only[hz,cond_true,cond_false]at h
    obtain rfl:=BI.1 hz;obtain ⟨rfl,rfl,h1,h2⟩:=h;have u5:=hs.c7 _ _ _ (D6 hm);have key:snap (st.own.j9 []) q 6 (A0 σ (.row key 0 1 0 rows.length))=some (.sl q (SN q rows)):=by
     simp only[A0,snap,DS,AE.get,AE.j9];rw[u5];simp only[A4.c7,Nat.zero_add,EZ,Nat.le_refl,and_self,if_true,List.drop_zero];rw[zT (by rw[EZ];exact Nat.le_refl _),ZG (i:=0) λ j z es hj=>⟨by
      have:=hs.c7 key (j+1) (.rw z es) (by simp [b7,hm,hj])
      simpa [A4.c7] using this,h1 z es (zM hj)⟩]
     rfl
    exact ⟨_,key,h2,(by intro e;cases e),rfl,key⟩
   ·exact h.elim
  ·exact lz h
 ·exact lz h
theorem kW (hs:GH σ st.own M) {q:Bool} : ∀ {l:List AV} {K:List AV->Prop},ZR q M a7 l K -> ∃ l',(l.map (A0 σ)).mapM (snap (st.own.j9 a7) q 6)=some l'/\K l'
 | [],K,h=>⟨[],rfl,h⟩
 | v::r,K,h=>by
  obtain ⟨v',h1,h2,_⟩:=kS hs (show SR q M a7 v λ v'=>ZR q M a7 r λ r'=>K (v'::r') from h);obtain ⟨l',h3,h4⟩:=kW hs h2;refine ⟨v'::l',?_,h4⟩;rw[List.map_cons,List.mapM_cons,h1,h3];rfl
theorem VJ (hs:GH σ st.own M) {q:Bool} {v:AV} {K:AV->Prop} (h:M3 q M a7 v K) : ∃ v',CB (st.own.j9 a7) q (A7 σ v)=some v'/\K v'/\v ≠ .any/\A7 σ v=BC σ v:=by
 cases v with
 | agg cs =>
  simp only[M3]at h;obtain ⟨l',h1,h2⟩:=kW hs h;refine ⟨.agg l',?_,h2,(by intro e;cases e),rfl⟩;simp only[HJ,CB,h1,Option.map_some]
 | e7 vs=>exact (h:False).elim
 | fn p f g cs=>exact (h:False).elim
 | any=>exact (h:False).elim
 | _ =>
  simp only[M3]at h;obtain ⟨v',h1,h2,h3,h4,h5⟩:=kS hs h;exact ⟨v',h5,h2,h3,rfl⟩
theorem VN (hr:RX σ tm M st) : ∀ {xs:List AM} {K:List AV->Prop},SS tm M a7 xs K -> ∃ vs,(xs.map st.ev).mapM (CB (st.own.j9 a7) true)=some vs/\K vs
 | [],K,h=>⟨[],rfl,h⟩
 | x::r,K,h=>by
  obtain ⟨v',h1,h2,h3,_⟩:=VJ hr.sat (show M3 true M a7 (ex tm x) λ v=>SS tm M a7 r λ vs=>K (v::vs) from h);obtain ⟨l',h4,h5⟩:=VN hr h2;refine ⟨v'::l',?_,h5⟩;rw[List.map_cons,List.mapM_cons,hr.ev rfl h3,h1,h4];rfl
theorem Lh (hs:GH σ st.own M) {v:AV} {K:AV->Prop} (h:VM M a7 v K) : ∃ v',MB (st.own.j9 a7) true (A7 σ v)=some v'/\K v'/\v ≠ .any/\A7 σ v=BC σ v:=by
 cases v with
 | nil=>exact ⟨.nil,rfl,h,(by intro e;cases e),rfl⟩
 | _ =>
  simp only[VM]at h;obtain ⟨v',h1,h2,h3,h4⟩:=VJ hs h;exact ⟨v',h1,h2,h3,h4⟩
theorem kX (hr:RX σ tm M st) : ∀ {xs:List AM} {K:List AV->Prop},ZS tm M a7 xs K -> ∃ vs,(xs.map st.ev).mapM (MB (st.own.j9 a7) true)=some vs/\K vs
 | [],K,h=>⟨[],rfl,h⟩
 | x::r,K,h=>by
  obtain ⟨v',h1,h2,h3,_⟩:=Lh hr.sat (show VM M a7 (ex tm x) λ v=>ZS tm M a7 r λ vs=>K (v::vs) from h);obtain ⟨l',h4,h5⟩:=kX hr h2;refine ⟨v'::l',?_,h5⟩;rw[List.map_cons,List.mapM_cons,hr.ev rfl h3,h1,h4];rfl
theorem P8 (hr:RX σ tm M st) : ∀ {xs:List AM} {K:List AV->Prop},OV tm xs K -> ∃ vs,xs.map st.ev=vs.map (A7 σ)/\K vs
 | [],K,h=>⟨[],rfl,h⟩
 | x::r,K,h=>by
  obtain ⟨h1,h2⟩:=UI (show fV (ex tm x) λ v=>OV tm r λ vs=>K (v::vs) from h);obtain ⟨vs,h3,h4⟩:=P8 hr h2;exact ⟨ex tm x::vs,by rw[List.map_cons,List.map_cons,hr.ev rfl h1,h3],h4⟩
theorem cJ {v:AV} (h:AZ v):A0 σ v=v:=by
 cases v<;>first|rfl|(simp only[AZ]at h)
theorem cH : ∀ {l:List AV},CG l->l.map (A0 σ)=l
 | [],_=>rfl
 | v::r,h=>by
  simp only[CG]at h;rw[List.map_cons,cJ h.1,cH h.2]
theorem cK {v:AV} (h:AZ v):BC σ v=v:=by
 cases v with
 | agg cs=>simp only[AZ]at h;simp only[BC,cH h]
 | fn p f g cs=>simp only[AZ]at h
 | _=>exact cJ (σ:=σ) h
theorem cI : ∀ {l:List AV},CG l->l.map (BC σ)=l
 | [],_=>rfl
 | v::r,h=>by
  simp only[CG]at h;rw[List.map_cons,cK h.1,cI h.2]
theorem WO {v:AV} (h:AZ v):A7 σ v=v:=by
 cases v with
 | e7 cs=>simp only[AZ]at h;simp only[A7,cI h]
 | _=>exact cK (σ:=σ) h
theorem jX {I:List AV->Option (AV × AE)} {vs:List AV} {r:AV} (h:G7 I vs=some r):AZ r:=by
 unfold G7 at h;split at h
 ·split at h
  ·split at h
   ·obtain rfl:=Option.some.inj h
    assumption
   ·cases h
  ·cases h
 ·cases h
theorem Ev.clean {f:Nat} {vs:List AV} {r:AV} (h:Ev L f vs r):AZ r:=by
 obtain ⟨n,h⟩:=h;unfold FW IX at h;split at h
 ·split at h
  ·rename_i r1 r2 h1 h2
   split at h
   ·obtain rfl:=Option.some.inj h
    exact jX h1
   ·cases h
  ·cases h
 ·exact jX h
theorem RX.put (h:RX σ tm M st) (d:Nat) {v v':AV} (e:v'=A7 σ v):RX σ ((d,v)::tm) M ⟨df st.tm d v',st.own⟩:=by
 refine ⟨λ j => ?_,h.sat⟩;simp only[tg,S1];cases hb:Nat.beq j d
 ·rw[if_neg (EL.1 hb)];exact h.tm j
 ·rw[if_pos (BI.1 hb)];exact Or.inr e
theorem jM : ∀ {cs:List AV},SC cs=true->cs.map (A7 σ)=cs.map (A0 σ)
 | [],_=>rfl
 | v::r,h=>by
  simp only[SC]at h;cases hv:YV v<;>simp only[hv,cond_true,cond_false]at h
  ·cases h
  ·rw[List.map_cons,List.map_cons,jM h]
   cases v<;>first|rfl|(simp [YV]at hv)
theorem tR {v:AV} (h:FD v=true):A0 σ v=v:=by cases v<;>first|rfl|(simp [FD]at h)
theorem dN : ∀ {cs:List AV},cs.all FD=true->cs.map (A0 σ)=cs
 | [],_=>rfl
 | c::r,h=>by
  simp only[List.all_cons,Bool.and_eq_true]at h;rw[List.map_cons,tR h.1,dN h.2]
theorem dO : ∀ {vs:List AV},vs.all dq=true->vs.map (A7 σ)=vs
 | [],_=>rfl
 | v::r,h=>by
  simp only[List.all_cons,Bool.and_eq_true]at h;rw[List.map_cons,dO h.2];congr 1;cases v with
  | agg cs=>simp only[A7,BC,dN (show cs.all FD=true from h.1)]
  | _=>first|rfl|(simp [dq,FD]at h)
theorem zN {r:AV} (hc:AZ r) (hf:HW r):A7 σ (px r)=px r:=by
 cases r with
 | agg cs =>
  simp only[px,A7,BC];congr 1;rw[List.map_map];refine List.map_congr_left λ c mh => ?_
  have:=hf c mh
  cases c<;>first|rfl|exact this.elim
 | _=>first|rfl|exact hf.elim
theorem zI {c:AV} (h:AZ c):A0 σ (FX c)=FX c:=by
 cases c<;>first|(simp only[FX,A0];done)|(simp only[AZ]at h;done)
theorem YF {r:AV} (h:AZ r) (hd:S6 r):BC σ (GZ r)=GZ r:=by
 cases r with
 | agg cs =>
  simp only[AZ]at h;have : ∀ cs:List AV,CG cs->(JT cs).map (A0 σ)=JT cs:=by
   intro cs;induction cs with
   | nil=>intro _;simp [JT]
   | cons c l ih =>
    intro h;simp only[CG]at h;rw[JT,List.map_cons,ih h.2,zI h.1]
  simp only[GZ,BC,this cs h]
 | e7=>exact hd.elim
 | fn=>exact hd.elim
 | _=>first|(simp only[GZ,FX,BC,A0];done)|(simp only[AZ]at h;done)
theorem zJ {r:AV} (h:AZ r) (hd:N1 r):A7 σ (IQ r)=IQ r:=by
 cases r with
 | e7 vs =>
  simp only[AZ]at h;have : ∀ vs:List AV,CG vs->(∀ v∈vs,S6 v)->(vs.map GZ).map (BC σ)=vs.map GZ:=by
   intro vs;induction vs with
   | nil=>intro _ _;rfl
   | cons v l ih =>
    intro h hd;simp only[CG]at h;rw[List.map_cons,List.map_cons,ih h.2 λ x hx=>hd x (List.mem_cons_of_mem _ hx),YF h.1 (hd v List.mem_cons_self)]
  simp only[IQ,A7,this vs h hd]
 | fn=>exact hd.elim
 | agg cs=>exact YF h trivial
 | _=>first|exact YF h trivial|(simp only[IQ,GZ,FX,A7,BC,A0];done)|(simp only[AZ]at h;done)
theorem zK {r:AV} (h:AZ r) (hd:HW r\/N1 r):A7 σ (JU r)=JU r:=by
 by_cases hf:HW r
 ·rw[YH hf];exact zN h hf
 ·rw[YG hf];exact zJ h (hd.resolve_left hf)
theorem gT : ∀ {l:List AV},UK l=true->l.map (A7 σ)=l
 | [],_=>rfl
 | .int _ _::r,h=>by
  rw[List.map_cons,gT (l:=r) h];rfl
theorem jD {s:Nat} : ∀ {M:Mem},QL s M=true -> ∀ k s' c,b8 M k=some (s',c)->s'≠s
 | [],_,_,_,_,e=>by cases e
 | (k0,s0,c0)::r,h,k,s',c,e=>by
  simp only[QL]at h;cases hb:Nat.beq s0 s<;>simp only[hb,cond_true,cond_false]at h
  ·simp only[b8]at e
   cases hk:Nat.beq k k0<;>simp only[hk,cond_true,cond_false]at e
   ·exact jD h k s' c e
   ·obtain ⟨rfl,_⟩:=Prod.mk.inj (Option.some.inj e)
    exact λ e2=>by rw[e2]at hb;simp at hb
  ·cases h
theorem GH.rq {σ:EJ} {own zt:AE} {M:Mem} {s:Nat} (h:GH σ own M) (hl:D5 s=false) (hn:QL s M=true) (ho : ∀ q,q≠s->zt q=own q):GH σ zt M:=by
 have k7 : ∀ k t c,b7 M k t=some c->(σ k t).1≠s:=λ k t c e=>by
  cases hr:c.fb with
  | true =>
   intro e2;have:=h.low k t c e hr
   rw[e2,hl]at this;cases this
  | false =>
   obtain ⟨s',c0,g,g1,g2⟩:=HQ e;cases t with
   | zero=>rw[h.site k s' c0 g];exact jD hn k s' c0 g
   | succ i =>
    obtain ⟨rows,z,es,_,_,rfl⟩:=g2 i rfl;cases hr
 exact ⟨h.site,λ k t c e=>by rw[ho _ (k7 k t c e)];exact h.c7 k t c e,λ k t c e=>by rw[ho _ (k7 k t c e)];exact h.old k t c e,h.inj,h.low⟩
theorem pC {K:AV->Mem->Prop} (hr:RX σ tm M st) {op:C2} (h:XE L tm M a7 K op):BG L tm a7 K op st\/(∃ f xs,op = .call f xs)\/(∃ f xs,op = .c4 f xs)\/(∃ x xs,op = .l8 x xs)\/(∃ f xs,op = .l7 f xs)\/(∃ s f xs,op = .n6 s f xs) \/ ∃ s f xs,op = .w5 s f xs:=by
 cases op with
 | call f xs=>exact Or.inr (Or.inl ⟨_,_,rfl⟩)
 | c4 f xs=>exact Or.inr (Or.inr (Or.inl ⟨_,_,rfl⟩))
 | l8 x xs=>exact Or.inr (Or.inr (Or.inr (Or.inl ⟨_,_,rfl⟩)))
 | l7 f xs=>exact Or.inr (Or.inr (Or.inr (Or.inr (Or.inl ⟨_,_,rfl⟩))))
 | n6 s f xs=>exact Or.inr (Or.inr (Or.inr (Or.inr (Or.inr (Or.inl ⟨_,_,_,rfl⟩)))))
 | w5 s f xs=>exact Or.inr (Or.inr (Or.inr (Or.inr (Or.inr (Or.inr ⟨_,_,_,rfl⟩)))))
 | il s n x v=>exact Or.inl (pO hr h)
 | kn ne x=>exact Or.inl (pE hr h)
 | bad=>exact (show False from h).elim
 | bn tb x=>exact Or.inl (pM hr h)
 | jb p f xs=>exact Or.inl (pI hr h)
 | m8 x=>exact Or.inl (pK hr h)
 | u9 s z=>exact Or.inl (pQ hr h)
 | pick c a b=>exact Or.inl (pL hr h)
 | bin o x y=>exact Or.inl (oU hr h)
 | beq ne x y=>exact Or.inl (oT hr h)
 | un o x=>exact Or.inl (pP hr h)
 | conv k x=>exact Or.inl (oY hr h)
 | box s x=>exact Or.inl (oV hr h)
 | alloc s z=>exact Or.inl (oQ hr h)
 | build z ps=>exact Or.inl (oX hr h)
 | b9 s z ps=>exact Or.inl (oW hr h)
 | m4 x o=>exact Or.inl (pA hr h)
 | gu x o n a=>exact Or.inl (pB hr h)
 | o6 a z x i=>exact Or.inl (pD hr h)
 | ld a n x=>exact Or.inl (pF hr h)
 | st n x v=>exact Or.inl (bD hr h)
 | mk s z b ze l c=>exact Or.inl (pH hr h)
 | de z x lo hi=>exact Or.inl (pN hr h)
 | ext x i=>exact Or.inl (oZ hr h)
 | len x=>exact Or.inl (pG hr h)
 | mm m xs=>exact Or.inl (pJ hr h)
 | app s z b x y=>exact Or.inl (oR hr h)
theorem WB {K:AV->Mem->Prop} (hr:RX σ tm M st) {op:C2} {d:Option Nat} {g:Option (Nat × Bool)} {l:List AI} {k:List It} {Q:St->Prop} (h:XE L tm M a7 K op) (hg:EC st g=some true)
  (hk : ∀ σ' v v' M' j7,K v M'->v'=A7 σ' v->RX σ' tm M' ⟨st.tm,j7⟩->AO L l k ⟨((⟨st.tm,j7⟩:St).dst d v').tm,j7⟩ Q):AO L (⟨d,op,g,a7⟩::l) k st Q:=by
 rcases pC hr h with ⟨E,σ',v,M',h1,h2,h3,h4⟩|⟨f,xs,rfl⟩|⟨f,xs,rfl⟩|⟨x,xs,rfl⟩|⟨f,xs,rfl⟩|⟨s,f,xs,rfl⟩|⟨s,f,xs,rfl⟩
 ·rw[nL hg h1,WG]
  have:=hk σ' v _ M' _ h2 h3 h4
  cases d<;>exact this
 ·simp only[XE]at h
  obtain ⟨vs,h1,r,h2,h3⟩:=VN hr h;rw[nB hg h1 h2];have:=hk σ r r M st.own h3 (WO h2.clean).symm hr
  cases d<;>exact this
 ·simp only[XE]at h
  split at h
  ·rename_i s
   obtain ⟨vs,h1,hF,⟨hl,hn⟩,h2⟩:=P8 hr h;have pg:GH σ (st.own.put s ⟨0,λ_=>none⟩) M:=hr.sat.rq hl hn λ q hq=>by simp [AE.put,hq]
   obtain ⟨r,j7,σ',M',⟨n,h3⟩,h4,h5,mw,h6⟩:=h2 σ _ pg;rw[<-h1]at h3;refine nA hg (r:=A7 σ' r) (o':=j7.put s ⟨0,λ_=>none⟩) (by simp [AE.put]) ⟨n,λ o ho => ?_⟩ ?_
   ·rw[hF n _ _ o _ _ (λ t=>by simp [AE.get,AE.put]) (λ q hq=>by rw[ho q hq];simp [AE.put,hq]) h3]
    congr 2;funext q
    simp only[AE.put];split<;>rfl
   ·have:=hk σ' r _ M' ((j7.put s ⟨0,λ_=>none⟩).put s (st.own s)) h6 rfl ⟨λ j=>by rw[h5 j];exact hr.tm j,h4.rq hl mw λ q hq=>by simp [AE.put,hq]⟩
    cases d<;>exact this
  ·rename_i hb
   obtain ⟨vs,h1,h2⟩:=P8 hr h;obtain ⟨r,j7,σ',M',h3,h4,h5,h6⟩:=h2 σ st.own hr.sat;rw[<-h1]at h3;rw[nD (λ s e=>hb s e) hg h3];have:=hk σ' r _ M' j7 h6 rfl ⟨λ j=>by rw[h5 j];exact hr.tm j,h4⟩
   cases d<;>exact this
 ·simp only[XE]at h
  split at h
  ·rename_i f g' e1
   obtain ⟨h0,h⟩:=h;obtain ⟨vs,h1,r,h2,h3⟩:=VN hr h;have e2:=hr.ev e1 (by intro e;cases e);rw[VH,List.map_nil,h0]at e2;rw[nE hg e2 h1 h2];have:=hk σ r r M st.own h3 (WO h2.clean).symm hr
   cases d<;>exact this
  ·rename_i f g' c cs e1
   obtain ⟨h0,h⟩:=h;obtain ⟨v',h1,h,_,_⟩:=VJ hr.sat h;obtain ⟨vs,h2,r,h3,h4⟩:=VN hr h;have e2:=hr.ev e1 (by intro e;cases e);rw[VH,h0]at e2;have h5:(AV.agg (c::cs |>.map (A0 σ))::xs.map st.ev).mapM (CB st.own true)=some (v'::vs):=by
    rw[List.mapM_cons,show CB st.own true (AV.agg (c::cs |>.map (A0 σ)))=some v' from h1,show (xs.map st.ev).mapM (CB st.own true)=some vs from h2];rfl
   rw[nC hg e2 h5 h3];have:=hk σ r r M st.own h4 (WO h3.clean).symm hr
   cases d<;>exact this
  ·rename_i f g' cs e1
   cases ho:SC cs<;>simp only[ho,cond_true,cond_false]at h;obtain ⟨h0,h⟩:=h;obtain ⟨vs,h1,h2⟩:=P8 hr h;rw[F7]at h2;obtain ⟨r,j7,σ',M',h3,h4,h5,h6⟩:=h2 σ st.own hr.sat;rw[List.map_append,<-h1,jM (σ:=σ) ho]at h3;have e2:=hr.ev e1 (by intro e;cases e);rw[VH,h0]at e2;rw[nH hg e2 h3];have:=hk σ' r _ M' j7 h6 rfl ⟨λ j=>by rw[h5 j];exact hr.tm j,h4⟩
   cases d<;>exact this
  ·exact h.elim
 ·simp only[XE]at h
  obtain ⟨vs,h1,h2⟩:=P8 hr h;cases ho:vs.all dq<;>simp only[ho,cond_true,cond_false]at h2;obtain ⟨r,h3,h4,h5⟩:=h2;have e1:xs.map st.ev=vs:=by rw[h1];exact dO ho
  rw[nF hg (by rw[e1];exact ho) (by rw[e1];exact h3) h4];have:=hk σ (JU r) (JU r) M st.own h5 (zK h3.clean h4).symm hr
  cases d<;>exact this
 ·simp only[XE]at h
  cases ya:D5 s<;>simp only[ya,cond_true,cond_false]at h;obtain ⟨vs,h1,z,es,n,h2,rfl,h3⟩:=kX hr h;obtain ⟨k',g1,g2,g3⟩:=HM h3;refine nG hg h1 h2 ?_;rw[WG];have:=hk (CF σ k' λ_=>(s,st.own.c9 s)) _ (.row s (st.own.c9 s) z 0 es.length) _ _ g3 (by simp only[C0,BK]) (hr.dc (q:=s) g1 g2 (.rw z es) trivial rfl (λ_=>ya))
  cases d<;>exact this
 ·simp only[XE]at h
  obtain ⟨vs,h1,h2⟩:=P8 hr h;split at h2
  ·rename_i key rest
   cases hi:UK rest<;>simp only[hi,cond_true,cond_false]at h2;obtain ⟨cells,bh,kd,n,g1,g2,g3,g4,g5⟩:=h2;have ay:=hr.sat.site _ _ _ g1;have u5:=hr.sat.c7 _ _ _ (D6 g1);rw[ay]at u5;simp only[A4.c7,HO g2]at u5;have w3:xs.map st.ev = .ptr s (σ key 0).2 0 0::rest:=by
    rw[h1,List.map_cons,DK,ay,gT hi]
   have hE:=g4 (σ key 0).2 (st.own s) u5;refine nI hg (by rw[w3];exact hE) ?_;rw[WG];have:=hk σ (.int kd n) (.int kd n) _ _ g5 rfl (hr.Fb g1 trivial (.bx bh) trivial (λ h=>by cases h))
   simp only[A4.c7,HO g3]at this;cases d<;>exact this
  ·exact h2.elim
theorem wZ (hr:RX σ tm M st) {g:Nat} {w:Bool} {b:Bool} (e:tg tm g = .bool b):EC st (some (g,w))=some (b == w):=by
 rcases hr.tm g with h|h
 ·rw[e]at h;cases h
 ·rw[e]at h
  simp only[EC,h,F2]
theorem xA (hr:RX σ tm M st) {g:Nat} {w:Bool} (e:tg tm g = .e7 []):EC st (some (g,w))=some false:=by
 rcases hr.tm g with h|h
 ·rw[e]at h;cases h
 ·rw[e]at h
  simp only[EC,h,HK,List.map_nil]
theorem Z4 {key:Nat} : ∀ (tm:Tm) (j:Nat),tg (wc key tm) j = .any\/tg (wc key tm) j=tg tm j
 | [],_=>Or.inl rfl
 | (i,v)::r,j=>by
  simp only[wc];cases hc:NE key v<;>cases hb:Nat.beq j i;all_goals simp only[cond_true,cond_false,tg,hb]
  ·exact Z4 r j
  ·exact Or.inr trivial
  ·exact Z4 r j
  ·exact Or.inl trivial
theorem Ld {v:AV} {K:Tm->Prop} (h:xk v tm K) : ∃ u7,(∀ j,tg u7 j = .any\/tg u7 j=tg tm j)/\K u7:=by
 unfold xk at h;split at h
 ·rw[R0]at h
  exact ⟨_,λ j=>Z4 _ j,h⟩
 ·exact ⟨_,λ j=>Or.inr rfl,h⟩
theorem bF {k:List It} {Q:Tm->Mem->Prop} : ∀ {l:List AI} {K:Tm->Mem->Prop} {tm:Tm} {M:Mem},XO L l K tm M->(∀ u7 M',K u7 M'->AA L k u7 M' Q)->aI L l k tm M Q
 | [],K,tm,M,h,hk=>λ σ st hr=>nJ.2 (hk tm M h σ st hr)
 | o::l,K,tm,M,h,hk=>by
  intro σ st hr;have h:XI L o (XO L l) K tm M:=h;have ih : ∀ u7 M',XO L l K u7 M'->aI L l k u7 M' Q:=λ u7 M' h'=>bF h' hk
  have some_ : ∀ (d:Nat) (op:C2) (g:Option (Nat × Bool)) (a7:List Nat),EC st g=some true->XE L tm M a7 (λ v M=>XO L l K ((d,v)::tm) M) op->AO L (⟨some d,op,g,a7⟩::l) k st (SQ Q):=by
   intro d op g a7 hg hx;refine WB hr hx hg ?_;intro σ' v v' M' j7 h1 h2 h3;exact ih _ _ h1 σ' _ (h3.put d h2)
  have uo : ∀ (d:Nat) (u:AV) (op:C2) (a7:List Nat),XE L tm M a7 (λ v M=>xk u tm λ tm=>XO L l K ((d,v)::tm) M) op->AO L (⟨some d,op,none,a7⟩::l) k st (SQ Q):=by
   intro d u op a7 hx;refine WB hr hx rfl ?_;intro σ' v v' M' j7 h1 h2 h3;obtain ⟨u7,g1,g2⟩:=Ld h1;exact ih _ _ g2 σ' _ ((show RX σ' u7 M' ⟨st.tm,j7⟩ from ⟨λ j=>(g1 j).elim Or.inl λ e=>by rw[e];exact h3.tm j,h3.sat⟩).put d h2)
  have none_ : ∀ (op:C2) (g:Option (Nat × Bool)) (a7:List Nat),EC st g=some true->XE L tm M a7 (λ_ M=>XO L l K tm M) op->AO L (⟨none,op,g,a7⟩::l) k st (SQ Q):=by
   intro op g a7 hg hx;refine WB hr hx hg ?_;intro σ' v v' M' j7 h1 h2 h3;exact ih _ _ h1 σ' _ h3
  have rp : ∀ (d:Option Nat) (op:C2) (g:Option (Nat × Bool)) (a7:List Nat),EC st g=some false->(match d with|some d=>XO L l K ((d,.e7 [])::tm) M|none=>XO L l K tm M)->AO L (⟨d,op,g,a7⟩::l) k st (SQ Q):=by
   intro d op g a7 hg hx;rw[nK hg];cases d with
   | none=>exact ih _ _ hx σ _ hr
   | some d=>exact ih _ _ hx σ _ (hr.put d rfl)
  obtain ⟨d,op,g,a7⟩:=o;cases g with
  | none =>
   cases d with
   | none=>exact none_ op none a7 rfl h
   | some d =>
    cases op with
    | app s z b x y=>exact uo d (ex tm x) (.app s z b x y) a7 h
    | _=>exact some_ d _ none a7 rfl h
  | some gw =>
   obtain ⟨g,w⟩:=gw;have h:(match tg tm g with
    | .bool b=>fB (b == w) λ c=>match c,d with
     | true,some d=>XE L tm M a7 (λ v M=>XO L l K ((d,v)::tm) M) op
     | true,none=>XE L tm M a7 (λ_ M=>XO L l K tm M) op
     | false,some d=>XO L l K ((d,.e7 [])::tm) M
     | false,none=>XO L l K tm M
    | .e7 []=>match d with
     | some d=>XO L l K ((d,.e7 [])::tm) M
     | none=>XO L l K tm M
    | _=>False):=by cases d<;>cases op<;>exact h
   split at h
   ·rename_i b e
    rw[NI]at h;have hg:=wZ hr (w:=w) e;cases hb:(b == w)<;>rw[hb]at h hg
    ·exact rp d op _ a7 hg (by cases d<;>exact h)
    ·cases d with
     | none=>exact none_ op _ a7 hg h
     | some d=>exact some_ d op _ a7 hg h
   ·rename_i e
    exact rp d op _ a7 (xA hr e) (by cases d<;>exact h)
   ·exact h.elim
theorem bE {Q:Tm->Mem->Prop} : ∀ {n:Nat} {k:List It} {tm:Tm} {M:Mem},XK L Q n k tm M->AA L k tm M Q
 | 0,k,tm,M,h=>h
 | n+1,[],tm,M,h=>λ σ st hr=>mU.2 ⟨σ,tm,M,hr,h⟩
 | n+1,it::k,tm,M,h=>by
  have h:XS L Q (XK L Q n) (it::k) tm M:=h;have ih : ∀ k tm M,XK L Q n k tm M->AA L k tm M Q:=λ k tm M h=>bE h
  intro σ st hr;cases it with
  | c7 id=>exact mM.2 (ih _ _ _ h σ st hr)
  | gq ts ss =>
   simp only[XS,wT,R0]at h;cases ss with
   | cons s r=>exact h.elim
   | nil =>
    refine mQ.2 (ih _ _ _ h σ _ ⟨λ j => ?_,hr.sat⟩);rw[SY,QW,bT,WK,Bool.false_or];cases hc:ts.contains j
    ·simp only[Bool.false_eq_true,if_false,cond_false]
     exact hr.tm j
    ·exact Or.inl rfl
  | lp c=>exact h σ st hr
  | code c =>
   cases c with
   | skip=>exact mZ.2 (ih _ _ _ h σ st hr)
   | ops l d=>exact mV.2 (bF h (λ u7 M' h'=>ih _ _ _ h') σ st hr)
   | dr c ts ss=>exact mP.2 (ih _ _ _ h σ st hr)
   | scope c=>exact mX.2 (ih _ _ _ h σ st hr)
   | seq a b=>exact mY.2 (ih _ _ _ h σ st hr)
   | cond x a b =>
    simp only[XS]at h;split at h
    ·rename_i b' e
     rw[NI]at h;rw[mO (hr.ev e (by intro e;cases e))];cases b'
     ·simpa using ih _ _ _ h σ st hr
     ·simpa using ih _ _ _ h σ st hr
    ·exact h.elim
   | block id c=>exact mN.2 (ih _ _ _ h σ st hr)
   | loop c=>exact mS.2 (aH.1 (h σ st hr))
   | exit id =>
    simp only[XS]at h;split at h
    ·rename_i k' e
     exact (mR e).2 (ih _ _ _ h σ st hr)
    ·exact h.elim
   | ret=>exact mW.2 ⟨σ,tm,M,hr,h⟩
theorem Iv (hr:RX σ tm M st) {r:HU} {K:AV->Prop} (h:SL tm M r K) : ∃ v,D7 st r=some (A7 σ v)/\K v/\A7 σ v=BC σ v:=by
 cases r with
 | tmp t =>
  simp only[SL]at h;obtain ⟨h1,h2,h3⟩:=fR (σ:=σ) h;refine ⟨_,?_,h3,h2⟩;rcases hr.tm t with e|e
  ·exact absurd e h1
  ·simp only[D7,e]
   cases hv:tg tm t<;>rw[hv]at h h1<;>first|rfl|exact (h:False).elim
 | cell t agg n =>
  simp only[SL]at h;split at h
  ·rename_i key i j e
   split at h
   ·rename_i s cs hm
    cases hi:Nat.beq i 0<;>simp only[hi,cond_true,cond_false]at h;obtain rfl:=BI.1 hi;split at h
    ·rename_i ds hp
     rw[F7]at h;rcases hr.tm t with e'|e'
     ·rw[e]at e';cases e'
     ·have hs:=hr.sat.site _ _ _ hm
      have u5:=hr.sat.c7 _ _ _ (D6 hm);rw[hs]at u5;have flat : ∀ v,IV agg (ds.map (A0 σ))=some (A7 σ v)->D7 st (.cell t agg n)=some (A7 σ v):=by
       intro v hv;simp only[D7,e',e,DK,AE.ja,AE.get,hs,u5,A4.c7,List.getElem?_cons_zero,U3 hp,hv]
      cases agg
      ·simp only[jt]at h
       split at h
       ·rename_i c
        obtain ⟨_,h1,h2⟩:=fS (σ:=σ) h;refine ⟨c,flat c (by rw[h1];rfl),h2,?_⟩;rw[h1];cases c<;>first|rfl|exact (h:False).elim
       ·exact h.elim
      ·exact ⟨.agg ds,flat _ rfl,h,rfl⟩
    ·exact h.elim
   ·exact h.elim
  ·exact h.elim
theorem ZC (hr:RX σ tm M st) : ∀ {l:List HU} {K:List AV->Prop},U8 tm M l K -> ∃ vs,l.mapM (D7 st)=some (vs.map (A7 σ))/\K vs/\vs.map (A7 σ)=vs.map (BC σ)
 | [],K,h=>⟨[],rfl,h,rfl⟩
 | r::l,K,h=>by
  obtain ⟨v,h1,h2,h3⟩:=Iv hr (show SL tm M r λ v=>U8 tm M l λ vs=>K (v::vs) from h);obtain ⟨vs,h4,h5,h6⟩:=ZC hr h2;exact ⟨v::vs,by rw[List.mapM_cons,h1,h4];rfl,h5,by rw[List.map_cons,List.map_cons,h3,h6]⟩
theorem kR (hs:GH σ st.own M) {q:Bool} : ∀ {l:List AV} {K:List AV->Prop},ZP q M l K -> ∃ l',(l.map (A7 σ)).mapM (CB st.own q)=some l'/\K l' /\ ∀ v∈l,A7 σ v=BC σ v
 | [],K,h=>⟨[],rfl,h,λ v hv=>by cases hv⟩
 | v::r,K,h=>by
  obtain ⟨v',h1,h2,_,h0⟩:=VJ hs (show M3 q M [] v λ v'=>ZP q M r λ r'=>K (v'::r') from h);obtain ⟨l',h3,h4,h5⟩:=kR hs h2;refine ⟨v'::l',?_,h4,λ u hu => ?_⟩
  ·rw[List.map_cons,List.mapM_cons,show CB st.own q (A7 σ v)=some v' from h1,h3];rfl
  ·rcases List.mem_cons.1 hu with rfl|hu
   ·exact h0
   ·exact h5 u hu
theorem Lk {own:AE} {q:Bool} {v v':AV} (h:CB own q v=some v'):NW own q v=some v':=by
 cases v with
 | e7 vs=>simp [CB,snap]at h
 | _=>exact h
theorem zQ {f:AV->Option AV} {x y:AV} {r l':List AV} (h:(x::y::r).mapM f=some l') : ∃ a b c,l'=a::b::c:=by
 rw[List.mapM_cons,List.mapM_cons]at h;cases hx:f x with
 | none=>rw[hx]at h;cases h
 | some a =>
  cases hy:f y with
  | none=>rw[hx,hy]at h;cases h
  | some b =>
   cases hr:r.mapM f with
   | none=>rw[hx,hy,hr]at h;cases h
   | some c =>
    rw[hx,hy,hr]at h;exact ⟨a,b,c,(Option.some.inj h).symm⟩
theorem bB {fn:AFn} {r:AV} (hr:RX σ tm M st) (h:NC fn r tm M):RB fn r st:=by
 unfold NC at h;obtain ⟨vs,h1,h2,h3⟩:=ZC hr h;obtain ⟨l',h4,h5,h6⟩:=kR hr.sat h2;unfold RB;rw[h1,Option.map_some,Option.bind_some];match vs,l',h4,h5 with
 | [],l',h4,h5 =>
  obtain rfl:=Option.some.inj h4;obtain ⟨e,hc⟩:=h5;exact ⟨by rw[<-e];rfl,hc⟩
 | [v],l',h4,h5 =>
  rw[List.map_cons,List.map_nil,List.mapM_cons]at h4;cases hv:CB st.own false (A7 σ v) with
  | none=>rw[hv]at h4;cases h4
  | some v' =>
   rw[hv]at h4;obtain rfl:=Option.some.inj h4;obtain ⟨e,hc⟩:=h5;exact ⟨by rw[<-e];exact Lk hv,hc⟩
 | v::u::w,l',h4,h5 =>
  obtain ⟨a,b,c,rfl⟩:=zQ (show List.mapM (CB st.own false) (A7 σ v::A7 σ u::w.map (A7 σ))=some l' from h4);obtain ⟨e,hc⟩:=h5;refine ⟨?_,hc⟩;rw[<-e];have h4:List.mapM (CB st.own false) (A7 σ v::A7 σ u::w.map (A7 σ))=some (a::b::c):=h4;show Option.map AV.e7 (List.mapM (CB st.own false) (A7 σ v::A7 σ u::w.map (A7 σ)))=_;rw[h4];rfl
def NF:AV->Bool
 | .agg cs=>DB cs
 | v=>lz v
def IO:List AV->Bool
 | []=>true
 | v::r=>bif NF v then IO r else false
theorem T7 {v:AV} (h:NF v=true):A7 σ v=v:=by
 cases v with
 | agg cs=>simp only[NF]at h;simp only[A7,BC,HO h]
 | _=>first|rfl|cases h
theorem RM {σ:EJ} : ∀ {vs:List AV} {i:Nat},IO vs=true -> ∀ j,c6 (BX i vs) j=A7 σ (c6 (BX i vs) j)
 | [],_,_,_=>rfl
 | v::r,i,h,j=>by
  simp only[IO]at h;cases hv:NF v<;>simp only[hv,cond_true,cond_false]at h
  ·cases h
  ·simp only[yB,S0]
   split
   ·exact (T7 hv).symm
   ·exact RM h j
theorem EU.x {f:Nat} {fn:AFn} {vs:List AV} {r:AV} (hL:L f=some fn) (hp:Nat.beq vs.length fn.u6=true) (hd:IO vs=true) (h:AA L [.code fn.body] (BX 0 vs) [] (NC fn r)):EU L f vs r:=by
 refine EU.fwd hL (BI.1 hp) (mT (h (λ_ _=>(0,0)) ⟨BX 0 vs,AE.emp⟩ ⟨λ j=>Or.inr ?_,?_⟩) ?_)
 ·rw[ID];exact RM hd j
 ·exact ⟨(λ_ _ _ e=>by cases e),(λ_ _ _ e=>by simp [b7,b8]at e),(λ_ _ _ e=>by simp [b7,b8]at e),(λ_ _ _ _ _ _ e=>by simp [b7,b8]at e),(λ_ _ _ e=>by simp [b7,b8]at e)⟩
 ·rintro s ⟨σ,tm,M,hr,hq⟩
  exact bB hr hq
theorem Ev.x {f:Nat} {fn:AFn} {vs:List AV} {r:AV} (hL:L f=some fn) (hp:Nat.beq vs.length fn.u6=true) (hd:IO vs=true) (h:AA L [.code fn.body] (BX 0 vs) [] (NC fn r)) (hs:fn.je=false:=by rfl):Ev L f vs r:=(EU.x hL hp hd h).ev hL hs
def E1:List (Nat × Nat)->Nat->Nat
 | [],k=>k
 | (a,b)::r,k=>bif Nat.beq k a then b else E1 r k
def VB (τ:List (Nat × Nat)):AV->AV
 | .row k t z o n => .row (E1 τ k) t z o n
 | .ptr k t i j => .ptr (E1 τ k) t i j
 | v=>v
def NU (τ:List (Nat × Nat)):List AV->List AV
 | []=>[]
 | v::r=>VB τ v::NU τ r
def QS (τ:List (Nat × Nat)):AV->AV
 | .agg cs => .agg (NU τ cs)
 | .fn p f g cs => .fn p f g (NU τ cs)
 | v=>VB τ v
def VD (τ:List (Nat × Nat)):List AV->List AV
 | []=>[]
 | v::r=>QS τ v::VD τ r
def VC (τ:List (Nat × Nat)):AV->AV
 | .e7 cs => .e7 (VD τ cs)
 | v=>QS τ v
def VE (τ:List (Nat × Nat)):List (List AV)->List (List AV)
 | []=>[]
 | v::r=>NU τ v::VE τ r
def IA (τ:List (Nat × Nat)):A4->A4
 | .bx cs => .bx (NU τ cs)
 | .rw z es => .rw z es
 | .bs z es => .bs z (VE τ es)
 | .mx rows => .mx rows
 | .hx i v rows => .hx i v rows
 | .vw w rows => .vw w rows
variable {τ:List (Nat × Nat)}
theorem SM : ∀ l:List AV,NU τ l=l.map (VB τ)
 | []=>rfl
 | v::r=>by rw[NU,SM r];rfl
theorem kC : ∀ l:List AV,VD τ l=l.map (QS τ)
 | []=>rfl
 | v::r=>by rw[VD,kC r];rfl
theorem VP (v:AV):A0 (λ k t=>σ (E1 τ k) t) v=A0 σ (VB τ v):=by cases v<;>rfl
theorem ZY (v:AV):BC (λ k t=>σ (E1 τ k) t) v=BC σ (QS τ v):=by
 cases v with
 | agg cs=>simp only[BC,QS,SM,List.map_map];exact congrArg AV.agg (List.map_congr_left λ v _=>VP v)
 | fn p f g cs=>simp only[BC,QS,SM,List.map_map];exact congrArg (AV.fn p f g) (List.map_congr_left λ v _=>VP v)
 | _=>rfl
theorem Ln (v:AV):A7 (λ k t=>σ (E1 τ k) t) v=A7 σ (VC τ v):=by
 cases v with
 | e7 cs=>simp only[A7,VC,kC,List.map_map];exact congrArg AV.e7 (List.map_congr_left λ v _=>ZY v)
 | agg cs=>exact ZY (.agg cs)
 | fn p f g cs=>exact ZY (.fn p f g cs)
 | _=>rfl
theorem kD : ∀ l:List (List AV),VE τ l=l.map (NU τ)
 | []=>rfl
 | v::r=>by rw[VE,kD r];rfl
theorem R9 {k:Nat} : ∀ (rows:List (Option (Nat × List (List AV)))) (i:Nat),BU (λ k t=>σ (E1 τ k) t) k i rows=BU σ (E1 τ k) i rows
 | [],i=>rfl
 | none::r,i=>by rw[BU,BU,R9 r]
 | some (z,es)::r,i=>by rw[BU,BU,R9 r]
theorem qM (c:A4) (k:Nat):c.c7 (λ k t=>σ (E1 τ k) t) k=(IA τ c).c7 σ (E1 τ k):=by
 cases c with
 | bx cs =>
  simp only[A4.c7,IA,SM,List.length_map,List.map_map];rw[List.map_congr_left λ v _=>VP v];rfl
 | rw z es=>rfl
 | bs z es =>
  simp only[A4.c7,IA,kD,List.map_map];congr 1;refine List.map_congr_left λ cs _ => ?_
  simp only[Function.comp,SM,List.map_map];exact List.map_congr_left λ v _=>VP v
 | mx rows=>simp only[A4.c7,IA,R9]
 | hx i v rows=>simp only[A4.c7,IA,R9]
 | vw w rows=>simp only[A4.c7,IA,R9]
def nn (k s:Nat) (c:A4):Mem->Mem
 | []=>[(k,s,c)]
 | (j,s',c')::r=>bif Nat.beq k j then (k,s,c)::r else (j,s',c')::nn k s c r
def kp:Mem->Mem
 | []=>[]
 | (k,s,c)::r=>nn k s c (kp r)
def R8:Mem->(Mem->Prop)->Prop
 | [],K=>K []
 | (k,s,c)::r,K=>R8 r λ r'=>fM (nn k s c r') K
theorem YM : ∀ (M:Mem) (K:Mem->Prop),R8 M K=K (kp M)
 | [],_=>rfl
 | (k,s,c)::r,K=>by rw[R8,YM r,MO];rfl
theorem iR (k s:Nat) (c:A4) (j:Nat) : ∀ M:Mem,b8 (nn k s c M) j=bif Nat.beq j k then some (s,c) else b8 M j
 | []=>rfl
 | (i,s',c')::r=>by
  simp only[nn];cases hk:Nat.beq k i
  ·simp only[cond_false,b8,iR k s c j r]
   cases hj:Nat.beq j i<;>cases Nx:Nat.beq j k<;>simp only[cond_true,cond_false];exact absurd ((BI.1 Nx).symm.trans (BI.1 hj)) (EL.1 hk)
  ·obtain rfl:=BI.1 hk
   simp only[cond_true,b8];cases Nat.beq j k<;>rfl
theorem QF (j:Nat) : ∀ M:Mem,b8 (kp M) j=b8 M j
 | []=>rfl
 | (k,s,c)::r=>by simp only[kp,iR,QF j r,b8]
theorem UR (k t:Nat):b7 (kp M) k t=b7 M k t:=by simp only[b7,QF]
def pz (τ:List (Nat × Nat)) (M:Mem):List (Nat × Nat × A4)->List (Option (Nat × A4))
 | []=>[]
 | (k,_,_)::r=>b8 M (E1 τ k)::pz τ M r
def qa (τ:List (Nat × Nat)):List (Nat × Nat × A4)->List (Option (Nat × A4))
 | []=>[]
 | (_,s,c)::r=>some (s,IA τ c)::qa τ r
def Ay (tm:Tm):Tm->List AV
 | []=>[]
 | (j,_)::r=>tg tm j::Ay tm r
def Az (τ:List (Nat × Nat)):Tm->List AV
 | []=>[]
 | (_,v)::r=>VC τ v::Az τ r
def UU:List Nat->Bool
 | []=>true
 | k::r=>bif MS k r then false else UU r
def keys (τ:List (Nat × Nat)):Mem->List Nat
 | []=>[]
 | (k,_,_)::r=>E1 τ k::keys τ r
theorem iQ : ∀ {M':Mem} {M:Mem},pz τ M M'=qa τ M' -> ∀ k s c,b8 M' k=some (s,c)->b8 M (E1 τ k)=some (s,IA τ c)
 | [],_,_,_,_,_,e=>by cases e
 | (i,s',c')::r,M,h,k,s,c,e=>by
  simp only[pz,qa,List.cons.injEq]at h;simp only[b8]at e;cases hb:Nat.beq k i<;>simp only[hb,cond_true,cond_false]at e
  ·exact iQ h.2 k s c e
  ·simp only[Option.some.injEq,Prod.mk.injEq]at e
   obtain ⟨rfl,rfl⟩:=e;rw[BI.1 hb];exact h.1
theorem YN : ∀ {M:Mem} {k s:Nat} {c:A4},b8 M k=some (s,c)->MS (E1 τ k) (keys τ M)=true
 | (i,s',c')::r,k,s,c,e=>by
  simp only[b8]at e;simp only[keys,MS];cases hb:Nat.beq k i<;>simp only[hb,cond_true,cond_false]at e
  ·rw[YN e];cases Nat.beq (E1 τ k) (E1 τ i)<;>rfl
  ·rw[BI.1 hb];simp
theorem jE : ∀ {M:Mem},UU (keys τ M)=true -> ∀ {k k' s s':Nat} {c c':A4},b8 M k=some (s,c)->b8 M k'=some (s',c')->E1 τ k=E1 τ k'->k=k'
 | [],_,_,_,_,_,_,_,e,_,_=>by cases e
 | (i,s0,c0)::r,h,k,k',s,s',c,c',e,e',hk=>by
  simp only[keys,UU]at h;cases hm:MS (E1 τ i) (keys τ r)<;>simp only[hm,cond_true,cond_false]at h
  ·simp only[b8]at e e'
   cases hb:Nat.beq k i<;>cases j4:Nat.beq k' i<;>simp only[hb,j4,cond_true,cond_false]at e e'
   ·exact jE h e e' hk
   ·obtain rfl:=BI.1 j4
    have:=YN (τ:=τ) e
    rw[hk,hm]at this;cases this
   ·obtain rfl:=BI.1 hb
    have:=YN (τ:=τ) e'
    rw[<-hk,hm]at this;cases this
   ·exact (BI.1 hb).trans (BI.1 j4).symm
  ·cases h
theorem lM : ∀ {u7:Tm} {tm:Tm},Ay tm u7=Az τ u7 -> ∀ j,tg u7 j = .any\/tg tm j=VC τ (tg u7 j)
 | [],_,_,_=>Or.inl rfl
 | (i,v)::r,tm,h,j=>by
  simp only[Ay,Az,List.cons.injEq]at h;simp only[tg];cases hb:Nat.beq j i<;>simp only[cond_true,cond_false]
  ·exact lM h.2 j
  ·rw[BI.1 hb];exact Or.inr h.1
def q5 (ts:List Nat) (tm:Tm):Tm:=match ts with
 | []=>tm
 | t::ts=>om (mask 0 (t::ts)) tm
def IK (τ:List (Nat × Nat)) (tm:Tm) (M:Mem) (u7:Tm) (M':Mem):Prop :=
 fT (om 0 u7) λ l=>R8 M' λ m=>Ay tm l=Az τ l/\pz τ M m=qa τ m/\UU (keys τ m)=true
theorem BJ {k:List It} {u7:Tm} {M':Mem} {Q:Tm->Mem->Prop} (τ:List (Nat × Nat)) (he:IK τ tm M u7 M') (h:AA L k u7 M' Q):AA L k tm M Q:=by
 unfold IK at he;rw[R0,YM]at he;obtain ⟨ht,hm,hn⟩:=he;intro σ st hr;have hg : ∀ k s c,b8 M' k=some (s,c)->b8 M (E1 τ k)=some (s,IA τ c):=λ k s c e=>iQ hm k s c (by rw[QF];exact e)
 have xq : ∀ k t c,b7 M' k t=some c->b7 M (E1 τ k) t=some (IA τ c):=by
  intro k t c e;obtain ⟨s,c0,g1,g2,g3⟩:=HQ e;have:=hg k s c0 g1
  cases t with
  | zero=>rw[g2 rfl];exact D6 this
  | succ i =>
   obtain ⟨rows,z,es,(rfl|⟨a,v,rfl⟩)|⟨w,rfl⟩,hr,rfl⟩:=g3 i rfl
   ·simp [b7,this,IA,hr]
   ·simp [b7,this,IA,hr]
   ·simp [b7,this,IA,hr]
 refine h (λ k t=>σ (E1 τ k) t) st ⟨λ j => ?_,⟨?_,?_,?_,?_,?_⟩⟩
 ·have:=lM ht j
  rw[SY,WK,cond_false]at this;rcases this with e|e
  ·exact Or.inl e
  ·rcases hr.tm j with e'|e'
   ·left
    rw[e']at e;cases hv:tg u7 j<;>rw[hv]at e<;>first|rfl|cases e
   ·right
    rw[e',e,Ln]
 ·intro k s c e;exact hr.sat.site _ _ _ (hg k s c e)
 ·intro k t c e;rw[qM];exact hr.sat.c7 _ _ _ (xq k t c e)
 ·intro k t c e;exact hr.sat.old _ _ _ (xq k t c e)
 ·intro k t k' t' c c' e e' hk
  obtain ⟨q1,q2⟩:=hr.sat.inj _ _ _ _ _ _ (xq _ _ _ e) (xq _ _ _ e') hk;obtain ⟨s,c0,g,_⟩:=HQ e;obtain ⟨s',Qq,g',_⟩:=HQ e';exact ⟨jE hn (by rw[QF];exact g) (by rw[QF];exact g') q1,q2⟩
 ·intro k t c e hw
  exact hr.sat.low _ _ _ (xq k t c e) (by cases c<;>exact hw)
theorem B2 {k:List It} {u7:Tm} {M':Mem} {Q:Tm->Mem->Prop} (τ:List (Nat × Nat)) (h:AA L k u7 M' Q) (he:IK τ tm M u7 M':=by (conv=>whnf);exact ⟨rfl,rfl,rfl⟩):AA L k tm M Q:=BJ τ he h
theorem mH {k:List It} {Q:Tm->Mem->Prop} (h:AA L k (om 0 tm) (kp M) Q):AA L k tm M Q:=by
 intro σ st hr;refine h σ st ⟨λ j => ?_,⟨?_,?_,?_,?_,?_⟩⟩
 ·rw[SY,WK,cond_false];exact hr.tm j
 ·intro k s c e;rw[QF]at e;exact hr.sat.site _ _ _ e
 ·intro k t c e;rw[UR]at e;exact hr.sat.c7 _ _ _ e
 ·intro k t c e;rw[UR]at e;exact hr.sat.old _ _ _ e
 ·intro k t k' t' c c' e e' hk
  rw[UR]at e e';exact hr.sat.inj _ _ _ _ _ _ e e' hk
 ·intro k t c e hw;rw[UR]at e;exact hr.sat.low _ _ _ e hw
theorem mL {k:List It} {c:A8} {Q:Tm->Mem->Prop} (h:AA L (.code c :: .lp c::k) tm M Q):AA L (.lp c::k) tm M Q:=λ σ st hr=>aH.2 (h σ st hr)
theorem Q0 {α:Type} {k:List It} {c:A8} {Q:Tm->Mem->Prop} (m:α->Nat) (P:α->Prop) (vs:α->Tm) (Ms:α->Mem) (ts:List Nat) (τ:List (Nat × Nat)) (a:α)
  (he:IK τ tm M (vs a++q5 ts tm) (Ms a++M)) (hp:P a)
  (step : ∀ a,P a->(∀ a',m a'<m a->P a'->AA L (.lp c::k) (vs a'++q5 ts tm) (Ms a'++M) Q)->AA L (.code c :: .lp c::k) (vs a++q5 ts tm) (Ms a++M) Q):AA L (.lp c::k) tm M Q:=by
 have key : ∀ n a,m a<n->P a->AA L (.lp c::k) (vs a++q5 ts tm) (Ms a++M) Q:=by
  intro n;induction n with
  | zero=>intro a h;omega
  | succ n ih =>
   intro a ha hp;exact mL (step a hp λ a' h1 h2=>ih a' (by omega) h2)
 exact BJ τ he (key (m a+1) a (by omega) hp)
end
end Go.c8
namespace Go.c8
section
variable {α:Type} {enc:α->List AV} {l:List α} {L:Lib}
theorem AH {p q A B:Prop} (h1:p->A) (h2:q->B):AF p q A B:=⟨h1,h2⟩
theorem BA {p A:Prop} (h1:p) (h2:A):AX p A:=⟨h1,h2⟩
section
variable {K:AV->Prop} {a b:Int} {k k':IntKind} {op:BinOp}
theorem S9 {v:AV} (h:CD op k a k' b=some v) (hk:K v):AB op k a k' b K:=⟨v,h,hk⟩
theorem A2 (hr : -9223372036854775808<=a+b/\a+b<=9223372036854775807) (hk:K (.int .i64 (a+b))):AB .add .i64 a .i64 b K:=⟨_,by simp only[CD,if_true];rw[IntWalk.i64_in _ hr],hk⟩
theorem BN (hr : -9223372036854775808<=a-b/\a-b<=9223372036854775807) (hk:K (.int .i64 (a-b))):AB .sub .i64 a .i64 b K:=⟨_,by simp only[CD,if_true];rw[IntWalk.i64_in _ hr],hk⟩
theorem N7 (hr : -9223372036854775808<=a*b/\a*b<=9223372036854775807) (hk:K (.int .i64 (a*b))):AB .mul .i64 a .i64 b K:=⟨_,by simp only[CD,if_true];rw[IntWalk.i64_in _ hr],hk⟩
theorem Q9 (h:0<=b/\b<=62) (hk:1<=pw b->pw b<=4611686018427387904->K (.int .i64 (pw b))):AB .shl .i64 1 k' b K:=⟨_,Ih h,hk (O7 b) (Y1 h.2)⟩
theorem aP (h:0<=b/\b<=62) (hk:0<=a%pw b->a%pw b<pw b->K (.int .i64 (a%pw b))):AB .and .i64 a .i64 (pw b-1) K:=⟨_,bP rfl h,hk (Int.emod_nonneg _ (by have:=O7 b;omega)) (Int.emod_lt_of_pos _ (by have:=O7 b;omega))⟩
theorem Q8 (hb:0<b) (h1:(0<=a\/a%b=0)->0<=a%b->a%b<b->K (.int .i64 (a%b))) (h2:a<0->a%b≠0->0<=a%b->a%b<b->K (.int .i64 (a%b-b))):AB .rem .i64 a .i64 b K:=by
 have h5:0<=a%b:=Int.emod_nonneg _ (by omega);have h6:a%b<b:=Int.emod_lt_of_pos _ hb;have e:CD .rem .i64 a .i64 b=some (.int .i64 (a.tmod b)):=by simp only[CD];rw[if_pos ⟨trivial,by omega⟩]
 by_cases hc:0<=a\/a%b=0
 ·rw[lN hb,if_pos hc]at e
  exact ⟨_,e,h1 hc h5 h6⟩
 ·rw[lN hb,if_neg hc]at e
  exact ⟨_,e,h2 (by omega) (by omega) h5 h6⟩
theorem PT (hb:0<b) (ha : -9223372036854775808<=a/\a<=9223372036854775807) (h1:(0<=a\/a%b=0)->K (.int .i64 (a/b))) (h2:a<0->a%b≠0->K (.int .i64 (a/b+1))):AB .quo .i64 a .i64 b K:=by
 have hr:=tY (m:=b) (by omega) ha;have e:CD .quo .i64 a .i64 b=some (.int .i64 (IntKind.i64.wrap (a.tdiv b))):=by simp only[CD];rw[if_pos ⟨trivial,by omega⟩]
 by_cases hc:0<=a\/a%b=0
 ·rw[lL hb,if_pos hc,IntWalk.i64_in _ hr]at e
  exact ⟨_,e,h1 hc⟩
 ·have Ot:a/b<0:=Int.ediv_neg_of_neg_of_pos (by omega) hb
  rw[lL hb,if_neg hc,IntWalk.i64_in _ (by omega)]at e;exact ⟨_,e,h2 (by omega) (by omega)⟩
theorem aU (h:0<=b/\b<=63) (hk:K (.int .i64 (a/pw b))):AB .shr .i64 a k' b K:=⟨_,Ii h,hk⟩
theorem oA (hk:K (.int .i64 (a%2))):AB .and .i64 a .i64 1 K:=⟨_,qA,hk⟩
theorem aW (hk:K (.int k (k.wrap (a+b)))):AB .add k a k b K:=⟨_,by simp only[CD,if_true],hk⟩
theorem aX (hk:K (.int k (k.wrap (a-b)))):AB .sub k a k b K:=⟨_,by simp only[CD,if_true],hk⟩
theorem oI (hk:K (.int k (k.wrap (a*b)))):AB .mul k a k b K:=⟨_,by simp only[CD,if_true],hk⟩
theorem CQ.neg (hr : -9223372036854775808 <= -a /\ -a<=9223372036854775807) (hk:K (.int .i64 (-a))):CQ .neg .i64 a K:=⟨_,by simp only[NZ];rw[show (0:Int)-a = -a by omega,IntWalk.i64_in _ hr],hk⟩
theorem CQ.go {op:UnOp} {v:AV} (h:NZ op (.int k a)=some v) (hk:K v):CQ op k a K:=⟨v,h,hk⟩
end
theorem Q1 {k:IntKind} {n:Int} {K:Int->Prop} (e:k.wrap n=n) (h:K n):AW k n K:=⟨by rw[e];exact h⟩
theorem BV {n:Int} {K:Int->Prop} (hr:0<=n/\n<=18446744073709551615) (h:K n):AW .u64 n K:=Q1 (IntWalk.u64_in _ hr) h
theorem N0 {n:Int} {K:Int->Prop} (hr : -9223372036854775808<=n/\n<=9223372036854775807) (h:K n):AW .i64 n K:=Q1 (IntWalk.i64_in _ hr) h
theorem BH {a:Int} {z:Nat} {K:List AV->Prop} {e:α} (he:l[a.toNat]? = some e) (h0:0<=a) (hz:(enc e).length=z) (h:K (enc e)):AY (l.map enc) a z K:=⟨h0,enc e,by simp [he],hz,h⟩
theorem aY {a:Int} {z:Nat} {K:List AV->Prop} (h0:0<=a/\a<l.length) (hz : ∀ e,(enc e).length=z) (h : ∀ e,l[a.toNat]? = some e->K (enc e)):AY (l.map enc) a z K:=by
 have he:l[a.toNat]? = some (l[a.toNat]'(by omega)):=zE _;exact BH he h0.1 (hz _) (h _ he)
theorem NB {n z:Nat} {K:List AV->Prop} (hn:n<l.length) (hz : ∀ e,(enc e).length=z) (h : ∀ e,l[n]? = some e->K (enc e)):AY (l.map enc) (n:Int) z K :=
 aY ⟨by omega,by omega⟩ hz h
theorem Q6 {i j n:Nat} {K:List AV->Prop} {f:α->List AV} (hi:i<l.length) (hp : ∀ e,part (enc e) j n=some (f e)) (h : ∀ e,l[i]? = some e->K (f e)):BB (l.map enc) (0+((i:Int)).toNat) j n K:=by
 have he:l[i]? = some l[i]:=zE _;rw[Nat.zero_add,Int.toNat_natCast];exact ⟨enc l[i],f l[i],by simp [he],hp _,h _ he⟩
theorem PS {i:Int} {j n:Nat} {K:List AV->Prop} {f:α->List AV} (hi:0<=i/\i<l.length) (hp : ∀ e,part (enc e) j n=some (f e)) (h : ∀ e,l[i.toNat]? = some e->K (f e)):BB (l.map enc) (0+i.toNat) j n K:=by
 have hl:i.toNat<l.length:=by omega
 have he:l[i.toNat]? = some l[i.toNat]:=zE _;rw[Nat.zero_add];exact ⟨enc l[i.toNat],f l[i.toNat],by rw[List.getElem?_map,he];rfl,hp _,h _ he⟩
theorem GI {i:Nat} {vs:List AV} {K:List (List AV)->Prop} (e:α) (he:vs=enc e) (hz : ∀ x,(enc x).length=vs.length) (hi:i<l.length) (h:K ((l.set i e).map enc)):A9 (l.map enc) (0+((i:Int)).toNat) 0 vs K:=by
 rw[Nat.zero_add,Int.toNat_natCast];refine ⟨enc l[i],by simp [zE hi],by rw[hz];omega,?_⟩;rw[show splice (enc l[i]) 0 vs=vs by simp [splice,<-hz l[i]],he,<-List.map_set];exact h
theorem V4 {i j n:Nat} {K:List AV->Prop} {e:α} {ds:List AV} (he:l[i]? = some e) (hp:part (enc e) j n=some ds) (h:K ds):BB (l.map enc) i j n K:=⟨enc e,ds,by simp [he],hp,h⟩
theorem Ll {cs vs:List AV} (h:cs.length=vs.length):splice cs 0 vs=vs:=by
 simp [splice,<-h]
theorem oP {i:Nat} {vs:List AV} {K:List (List AV)->Prop} (e:α) (he:vs=enc e) (hz : ∀ x,(enc x).length=vs.length) (hi:i<l.length) (h:K ((l.set i e).map enc)):A9 (l.map enc) i 0 vs K:=by
 refine ⟨enc l[i],by simp [zE hi],by rw[hz];omega,?_⟩;rw[Ll (hz _),he,<-List.map_set];exact h
theorem DQ {a b:Int} {bytes:Nat} {zero:List AV} {K:List (List AV)->Nat->Prop} (x:α) (n:Nat) (hx:zero=enc x) (hn:a=n) (hr:a<=b/\b*bytes<=140737488355328/\b<=9223372036854775807) (h:K ((List.replicate n x).map enc) n):BS a b bytes zero K:=by
 subst hn hx;refine ⟨⟨by omega,hr.1,by simpa [FF] using hr.2.1,hr.2.2⟩,?_⟩;simpa using h
theorem AQ {K:Nat->Prop} (h:K l.length):AP (l.map enc) K:=⟨by simpa using h⟩
theorem ER {len z bytes:Nat} {vs:List AV} {K:List (List AV)->Nat->Prop} (e:α) (he:vs=enc e) (hl:len=l.length) (hz:vs.length=z) (hr:(l.length+1)*bytes<=140737488355328) (cb:l.length+1<=9223372036854775807) (h:K ((l++[e]).map enc) (l++[e]).length):BR (l.map enc) len [vs] z bytes K:=by
 subst hl;refine ⟨by simp,by simpa using hz,by simpa [FF] using hr,by simpa using cb,?_⟩;rw[zT (by simp)];simpa [he] using h
theorem VY {len z bytes:Nat} {l':List α} {K:List (List AV)->Nat->Prop} (hl:len=l.length) (hz : ∀ x,(enc x).length=z) (hr:(l.length+l'.length)*bytes<=140737488355328) (cb:l.length+l'.length<=9223372036854775807) (h:K ((l++l').map enc) (l++l').length):BR (l.map enc) len (l'.map enc) z bytes K:=by
 subst hl;refine ⟨by simp,by simp [hz],by simpa [FF] using hr,by simpa using cb,?_⟩;rw[zT (by simp)];simpa using h
theorem M7 {z bytes:Nat} {K:List (List AV)->Nat->Prop} (hz : ∀ x,(enc x).length=z) (hr:l.length*bytes<=140737488355328) (cb:l.length<=9223372036854775807) (h:K (l.map enc) l.length):CX (l.map enc) z bytes K :=
 ⟨by simp [hz],by simpa [FF] using hr,by simpa using cb,by simpa using h⟩
theorem TG {off len:Nat} {K:List (List AV)->Prop} (hl:off+len<=l.length) (h:K (((l.drop off).take len).map enc)):BT (l.map enc) off len K :=
 ⟨by simpa using hl,by rw[<-List.map_drop,<-List.map_take];exact h⟩
theorem YU : ∀ {e:List AV},E8 e=true->KJ e=true/\e.map nl=e
 | [],_=>⟨rfl,rfl⟩
 | v::r,h=>by
  have hv:E8 r=true:=by cases v<;>simp only[E8]at h<;>first|cases h|exact h
  obtain ⟨h1,h2⟩:=YU hv;cases v<;>simp only[E8]at h<;>first|cases h|exact ⟨h1,by rw[List.map_cons,h2];rfl⟩
theorem jH : ∀ {es:List (List AV)},(∀ e∈es,E8 e=true)->es.map (λ e=>e.map nl)=es
 | [],_=>rfl
 | e::r,h=>by rw[List.map_cons,(YU (h e List.mem_cons_self)).2,jH λ x hx=>h x (List.mem_cons_of_mem _ hx)]
theorem TI {es:List (List AV)} {off len:Nat} {K:List (List AV)->Prop} (hl:off+len<=es.length) (hz : ∀ e∈es,E8 e=true) (h:K ((es.drop off).take len)):A1 es off len K :=
 ⟨hl,λ e he=>(YU (hz e he)).1,by rw[jH λ e he=>hz e (List.mem_of_mem_drop (List.mem_of_mem_take he))];exact h⟩
theorem C8 {off len:Nat} {K:List (List AV)->Prop} (hz : ∀ x,E8 (enc x)=true) (ho:off=0) (hl:len=l.length) (h:K (l.map enc)):A1 (l.map enc) off len K:=by
 subst hl ho;refine TI (by simp) (λ e he => ?_) (by rw[List.drop_zero,zT (by simp)];exact h);obtain ⟨x,_,rfl⟩:=List.mem_map.1 he;exact hz x
theorem FV {off len:Nat} {K:List (List AV)->Prop} (hz : ∀ x,E8 (enc x)=true) (hl:off+len<=l.length) (h:K (((l.drop off).take len).map enc)):A1 (l.map enc) off len K:=by
 refine TI (by simpa using hl) (λ e he => ?_) (by rw[<-List.map_drop,<-List.map_take];exact h);obtain ⟨x,_,rfl⟩:=List.mem_map.1 he;exact hz x
theorem EW {e:List AV} {K:List (List AV)->Prop} (h:K [e]):BT [e] 0 1 K:=⟨by simp,h⟩
theorem HY {e:List AV} {K:List (List AV)->Prop} (h0:E8 e=true) (h:K [e]):A1 [e] 0 1 K:=TI (by simp) (by simpa using h0) h
theorem TH {e e':List AV} {K:List (List AV)->Prop} (h0:E8 e=true) (h1:E8 e'=true) (h:K [e,e']):A1 [e,e'] 0 2 K:=TI (by simp) (by simpa using ⟨h0,h1⟩) h
section
variable {β:Type} {z:Nat} {ll:List (List β)} {en:β->List AV}
abbrev FZ (z:Nat) (en:β->List AV) (ll:List (List β)):List (Option (Nat × List (List AV))):=ll.map λ r=>some (z,r.map en)
theorem PR {i:Nat} {K:Option (Nat × List (List AV))->Prop} (hi:i<ll.length) (h : ∀ r,ll[i]? = some r->K (some (z,r.map en))):C7 (FZ z en ll) (0+((i:Int)).toNat) K:=by
 have he:ll[i]? = some ll[i]:=zE _;exact ⟨_,by rw[Nat.zero_add,Int.toNat_natCast,List.getElem?_map,he];rfl,h _ he⟩
theorem nY {i:Nat} {K:Nat->List (List AV)->Prop} {r:List β} (hr:ll[i]? = some r) (h:K z (r.map en)):CE (FZ z en ll) i K :=
 ⟨z,r.map en,by rw[List.getElem?_map,hr];rfl,h⟩
theorem N4 {i:Nat} {K:Nat->List (List AV)->Prop} {r:List β} (hr:ll[i]? = some r) (h:K z (r.map en)):CE (FZ z en ll) (0+((i:Int)).toNat) K:=by
 rw[Nat.zero_add,Int.toNat_natCast];exact nY hr h
theorem V9 {i:Nat} {r r':List β} {K:List (Option (Nat × List (List AV)))->Prop} (hl:r'.length=r.length) (h:K (FZ z en (ll.set i r'))):DF (FZ z en ll) (0+((i:Int)).toNat) z (r.map en) (r'.map en) K:=by
 rw[Nat.zero_add,Int.toNat_natCast];exact ⟨by simpa using hl,by simpa [FZ,List.map_set] using h⟩
end
theorem nO {len:Nat} {a:Int} {K:Nat->Nat->Prop} (h0:0<=a/\a<=len) (h:K a.toNat len):BP (some a) none len K:=⟨a.toNat,len,⟨h0.1,rfl⟩,rfl,by omega,h⟩
theorem nN {len:Nat} {b:Int} {K:Nat->Nat->Prop} (h0:0<=b/\b<=len) (h:K 0 b.toNat):BP none (some b) len K:=⟨0,b.toNat,rfl,⟨h0.1,h0.2,rfl⟩,by omega,h⟩
theorem nP {len:Nat} {a b:Int} {K:Nat->Nat->Prop} (h0:0<=a/\a<=b/\b<=len) (h:K a.toNat b.toNat):BP (some a) (some b) len K:=⟨a.toNat,b.toNat,⟨h0.1,rfl⟩,⟨by omega,by omega,rfl⟩,by omega,h⟩
theorem bC {z:Nat} {lo hi:Option Int} {K:List (List AV)->Prop} (hz : ∀ x,(enc x).length=z) (h:BP lo hi l.length λ a h=>K (((l.take h).drop a).map enc)):CK z (l.map enc) lo hi K:=by
 refine ⟨by simp [hz],?_⟩;rw[List.length_map];obtain ⟨a,b,h1,h2,h3,h4⟩:=h;refine ⟨a,b,h1,h2,h3,?_⟩;show K _;rw[<-List.map_take,<-List.map_drop];exact h4
theorem N8 {z k:Nat} {K:List (List AV)->Prop} (hz : ∀ x,(enc x).length=z) (hk:k<=l.length) (h:K ((l.take k).map enc)):CK z (l.map enc) none (some (k:Int)) K :=
 bC hz (nN (by omega) (by simpa using h))
theorem oO {z k:Nat} {K:List (List AV)->Prop} (hz : ∀ x,(enc x).length=z) (hk:k<=l.length) (h:K ((l.drop k).map enc)):CK z (l.map enc) (some (k:Int)) none K :=
 bC hz (nO (by omega) (by simpa using h))
theorem AG {f:Nat} {vs:List AV} {K:AV->Prop} {r:AV} (h:Ev L f vs r) (hk:K r):AC L f vs K:=⟨r,h,hk⟩
theorem GR {f:Nat} {vs:List AV} {K:AV->Prop} {p:Prop} [Decidable p] (h:Ev L f vs (.bool (decide p))) (h1:p->K (.bool true)) (h2 : ¬ p->K (.bool false)):AC L f vs K:=by
 refine ⟨_,h,?_⟩;by_cases e:p
 ·rw[decide_eq_true e];exact h1 e
 ·rw[decide_eq_false e];exact h2 e
theorem nT {f:Nat} {vs:List AV} {K:AV->Prop} {b:Bool} (h:Ev L f vs (.bool b)) (h1:b=true->K (.bool true)) (h2:b=false->K (.bool false)):AC L f vs K:=by
 refine ⟨_,h,?_⟩;cases b
 ·exact h2 rfl
 ·exact h1 rfl
theorem AU {a r:AV} (h:a=r) (hc:AZ r):AL a r:=⟨h,hc⟩
theorem E4 {a r:Bool} (h:a=r):AL (.bool a) (.bool r):=⟨by rw[h],by simp [AZ]⟩
theorem Q3 {p:Prop} [Decidable p] (h:p):AL (.bool true) (.bool (decide p)):=⟨by simp [h],by simp [AZ]⟩
theorem N3 {p:Prop} [Decidable p] (h : ¬ p):AL (.bool false) (.bool (decide p)):=⟨by simp [h],by simp [AZ]⟩
theorem B9 {k:IntKind} {a b:Int} (h:a=b):AL (.int k a) (.int k b):=⟨by rw[h],by simp [AZ]⟩
theorem TY (h : ∀ x,CG (enc x)) : ∀ l:List α,FB (l.map enc)
 | []=>by simp [FB]
 | x::r=>by rw[List.map_cons,FB];exact ⟨h x,TY h r⟩
end
theorem cF (l:List Int):FB (l.map GK):=TY (λ_=>by simp [CG,AZ]) l
theorem GF {α:Type} {L:Lib} {k:List It} {cd:A8} {tm:Tm} {M:Mem} {Q:Tm->Mem->Prop} (m:α->Nat) (P:α->Prop) (vs:α->Tm) (Ms:α->Mem) (ts:List Nat) (τ:List (Nat × Nat)) (a:α)
  (he:IK τ tm M (vs a++q5 ts tm) (Ms a++M)) (hp:P a)
  (step : ∀ a,P a->(∀ a',m a'<m a->P a'->AA L (.lp cd::k) (vs a'++q5 ts tm) (Ms a'++M) Q)->AA L (.code cd :: .lp cd::k) (vs a++q5 ts tm) (Ms a++M) Q):AA L (.lp cd::k) tm M Q :=
 Q0 (α:=α) (λ x=>m x) (λ x=>P x) (λ x=>vs x) (λ x=>Ms x) ts τ a he hp λ a h ih=>step a h λ a' h1 h2=>ih a' h1 h2
theorem S2 {α β:Type} {L:Lib} {k:List It} {cd:A8} {tm:Tm} {M:Mem} {Q:Tm->Mem->Prop} (m:α->β->Nat) (P:α->β->Prop) (vs:α->β->Tm) (Ms:α->β->Mem) (ts:List Nat) (τ:List (Nat × Nat)) (a:α) (b:β)
  (he:IK τ tm M (vs a b++q5 ts tm) (Ms a b++M)) (hp:P a b)
  (step : ∀ a b,P a b->(∀ a' b',m a' b'<m a b->P a' b'->AA L (.lp cd::k) (vs a' b'++q5 ts tm) (Ms a' b'++M) Q)->AA L (.code cd :: .lp cd::k) (vs a b++q5 ts tm) (Ms a b++M) Q):AA L (.lp cd::k) tm M Q :=
 Q0 (α:=α × β) (λ x=>m x.1 x.2) (λ x=>P x.1 x.2) (λ x=>vs x.1 x.2) (λ x=>Ms x.1 x.2) ts τ (a,b) he hp λ⟨a,b⟩ h ih=>step a b h λ a' b' h1 h2=>ih (a',b') h1 h2
theorem mJ {α β γ:Type} {L:Lib} {k:List It} {cd:A8} {tm:Tm} {M:Mem} {Q:Tm->Mem->Prop} (m:α->β->γ->Nat) (P:α->β->γ->Prop) (vs:α->β->γ->Tm) (Ms:α->β->γ->Mem) (ts:List Nat) (τ:List (Nat × Nat)) (a:α) (b:β) (c:γ)
  (he:IK τ tm M (vs a b c++q5 ts tm) (Ms a b c++M)) (hp:P a b c)
  (step : ∀ a b c,P a b c->(∀ a' b' c',m a' b' c'<m a b c->P a' b' c'->AA L (.lp cd::k) (vs a' b' c'++q5 ts tm) (Ms a' b' c'++M) Q)->AA L (.code cd :: .lp cd::k) (vs a b c++q5 ts tm) (Ms a b c++M) Q):AA L (.lp cd::k) tm M Q :=
 Q0 (α:=α × β × γ) (λ x=>m x.1 x.2.1 x.2.2) (λ x=>P x.1 x.2.1 x.2.2) (λ x=>vs x.1 x.2.1 x.2.2) (λ x=>Ms x.1 x.2.1 x.2.2) ts τ (a,b,c) he hp λ⟨a,b,c⟩ h ih=>step a b c h λ a' b' c' h1 h2=>ih (a',b',c') h1 h2
theorem S3 {α β γ δ:Type} {L:Lib} {k:List It} {cd:A8} {tm:Tm} {M:Mem} {Q:Tm->Mem->Prop} (m:α->β->γ->δ->Nat) (P:α->β->γ->δ->Prop) (vs:α->β->γ->δ->Tm) (Ms:α->β->γ->δ->Mem) (ts:List Nat) (τ:List (Nat × Nat)) (a:α) (b:β) (c:γ) (d:δ)
  (he:IK τ tm M (vs a b c d++q5 ts tm) (Ms a b c d++M)) (hp:P a b c d)
  (step : ∀ a b c d,P a b c d->(∀ a' b' c' d',m a' b' c' d'<m a b c d->P a' b' c' d'->AA L (.lp cd::k) (vs a' b' c' d'++q5 ts tm) (Ms a' b' c' d'++M) Q)->AA L (.code cd :: .lp cd::k) (vs a b c d++q5 ts tm) (Ms a b c d++M) Q):AA L (.lp cd::k) tm M Q :=
 Q0 (α:=α × β × γ × δ) (λ x=>m x.1 x.2.1 x.2.2.1 x.2.2.2) (λ x=>P x.1 x.2.1 x.2.2.1 x.2.2.2) (λ x=>vs x.1 x.2.1 x.2.2.1 x.2.2.2) (λ x=>Ms x.1 x.2.1 x.2.2.1 x.2.2.2) ts τ (a,b,c,d) he hp λ⟨a,b,c,d⟩ h ih=>step a b c d h λ a' b' c' d' h1 h2=>ih (a',b',c',d') h1 h2
theorem mK {α β γ δ ε ζ:Type} {L:Lib} {k:List It} {cd:A8} {tm:Tm} {M:Mem} {Q:Tm->Mem->Prop} (m:α->β->γ->δ->ε->ζ->Nat) (P:α->β->γ->δ->ε->ζ->Prop) (vs:α->β->γ->δ->ε->ζ->Tm) (Ms:α->β->γ->δ->ε->ζ->Mem) (ts:List Nat) (τ:List (Nat × Nat)) (a:α) (b:β) (c:γ) (d:δ) (e:ε) (f:ζ)
  (he:IK τ tm M (vs a b c d e f++q5 ts tm) (Ms a b c d e f++M)) (hp:P a b c d e f)
  (step : ∀ a b c d e f,P a b c d e f->(∀ a' b' c' d' e' f',m a' b' c' d' e' f'<m a b c d e f->P a' b' c' d' e' f'->AA L (.lp cd::k) (vs a' b' c' d' e' f'++q5 ts tm) (Ms a' b' c' d' e' f'++M) Q)->AA L (.code cd :: .lp cd::k) (vs a b c d e f++q5 ts tm) (Ms a b c d e f++M) Q):AA L (.lp cd::k) tm M Q :=
 Q0 (α:=α × β × γ × δ × ε × ζ) (λ x=>m x.1 x.2.1 x.2.2.1 x.2.2.2.1 x.2.2.2.2.1 x.2.2.2.2.2) (λ x=>P x.1 x.2.1 x.2.2.1 x.2.2.2.1 x.2.2.2.2.1 x.2.2.2.2.2) (λ x=>vs x.1 x.2.1 x.2.2.1 x.2.2.2.1 x.2.2.2.2.1 x.2.2.2.2.2) (λ x=>Ms x.1 x.2.1 x.2.2.1 x.2.2.2.1 x.2.2.2.2.1 x.2.2.2.2.2) ts τ (a,b,c,d,e,f) he hp λ⟨a,b,c,d,e,f⟩ h ih=>step a b c d e f h λ a' b' c' d' e' f' h1 h2=>ih (a',b',c',d',e',f') h1 h2
theorem DL {α:Type} {L:Lib} {k:List It} {cd:A8} {tm:Tm} {M:Mem} {Q:Tm->Mem->Prop} (m:α->Nat) (P:α->Prop) (vs:α->Tm) (Ms:α->Mem) (a:α)
  (hp:P a)
  (step : ∀ a,P a->(∀ a',m a'<m a->P a'->AA L (.lp cd::k) (vs a'++q5 [] tm) (Ms a'++M) Q)->AA L (.code cd :: .lp cd::k) (vs a++q5 [] tm) (Ms a++M) Q)
  (he:IK [] tm M (vs a++q5 [] tm) (Ms a++M):=by (conv=>whnf);exact ⟨rfl,rfl,rfl⟩):AA L (.lp cd::k) tm M Q :=
 GF m P vs Ms [] [] a he hp step
theorem IH {α β:Type} {L:Lib} {k:List It} {cd:A8} {tm:Tm} {M:Mem} {Q:Tm->Mem->Prop} (m:α->β->Nat) (P:α->β->Prop) (vs:α->β->Tm) (Ms:α->β->Mem) (a:α) (b:β)
  (hp:P a b)
  (step : ∀ a b,P a b->(∀ a' b',m a' b'<m a b->P a' b'->AA L (.lp cd::k) (vs a' b'++q5 [] tm) (Ms a' b'++M) Q)->AA L (.code cd :: .lp cd::k) (vs a b++q5 [] tm) (Ms a b++M) Q)
  (he:IK [] tm M (vs a b++q5 [] tm) (Ms a b++M):=by (conv=>whnf);exact ⟨rfl,rfl,rfl⟩):AA L (.lp cd::k) tm M Q :=
 S2 m P vs Ms [] [] a b he hp step
theorem E9 {α β γ:Type} {L:Lib} {k:List It} {cd:A8} {tm:Tm} {M:Mem} {Q:Tm->Mem->Prop} (m:α->β->γ->Nat) (P:α->β->γ->Prop) (vs:α->β->γ->Tm) (Ms:α->β->γ->Mem) (a:α) (b:β) (c:γ)
  (hp:P a b c)
  (step : ∀ a b c,P a b c->(∀ a' b' c',m a' b' c'<m a b c->P a' b' c'->AA L (.lp cd::k) (vs a' b' c'++q5 [] tm) (Ms a' b' c'++M) Q)->AA L (.code cd :: .lp cd::k) (vs a b c++q5 [] tm) (Ms a b c++M) Q)
  (he:IK [] tm M (vs a b c++q5 [] tm) (Ms a b c++M):=by (conv=>whnf);exact ⟨rfl,rfl,rfl⟩):AA L (.lp cd::k) tm M Q :=
 mJ m P vs Ms [] [] a b c he hp step
theorem AD {L:Lib} {Q:Tm->Mem->Prop} {c:A8} {k:List It} {tm:Tm} {M:Mem} (h:fT (om 0 tm) λ tm=>R8 M λ M=>XK L Q 500 (.code c::k) tm M):AA L (.code c::k) tm M Q:=by
 rw[R0,YM]at h;exact mH (bE h)
end Go.c8

namespace Go.c8
variable {L:Lib}
def B5 (N:Nat):AM->Bool
 | .t n=>Nat.blt n N
 | .c _=>true
def SD (N:Nat):C2->Bool
 | .m8 x=>B5 N x
 | .u9 _ _=>true
 | .pick c a b=>B5 N c&&(B5 N a&&B5 N b)
 | .bin _ x y=>B5 N x&&B5 N y
 | .beq _ x y=>B5 N x&&B5 N y
 | .un _ x=>B5 N x
 | .conv _ x=>B5 N x
 | .box _ x=>B5 N x
 | .alloc _ _=>true
 | .build _ ps=>ps.all λ p=>B5 N p.2.2
 | .b9 _ _ ps=>ps.all (B5 N)
 | .m4 x _=>B5 N x
 | .gu x _ _ _=>B5 N x
 | .o6 _ _ x i=>B5 N x&&B5 N i
 | .ld _ _ x=>B5 N x
 | .st _ x v=>B5 N x&&B5 N v
 | .mk _ _ _ _ l c=>B5 N l&&B5 N c
 | .de _ x lo hi=>B5 N x&&((lo.all (B5 N))&&(hi.all (B5 N)))
 | .ext x _=>B5 N x
 | .len x=>B5 N x
 | .mm _ xs=>xs.all (B5 N)
 | .app _ _ _ x y=>B5 N x&&B5 N y
 | .call _ xs=>xs.all (B5 N)
 | .c4 _ xs=>xs.all (B5 N)
 | .kn _ x=>B5 N x
 | .bn _ x=>B5 N x
 | .bad=>true
 | .jb _ _ xs=>xs.all (B5 N)
 | .l8 x xs=>B5 N x&&xs.all (B5 N)
 | .l7 _ xs=>xs.all (B5 N)
 | .n6 _ _ xs=>xs.all (B5 N)
 | .w5 _ _ xs=>xs.all (B5 N)
 | .il _ _ x v=>B5 N x&&B5 N v
def RE (N:Nat) (a:AI):Bool:=(a.dst.all λ d=>Nat.blt d N)&&((a.guard.all λ g=>Nat.blt g.1 N)&&SD N a.op)
def GT (N:Nat):A8->Bool
 | .skip=>true
 | .ops l _=>l.all (RE N)
 | .dr c ts _=>GT N c&&ts.all λ t=>Nat.blt t N
 | .scope c=>GT N c
 | .seq a b=>GT N a&&GT N b
 | .cond c a b=>B5 N c&&(GT N a&&GT N b)
 | .block _ c=>GT N c
 | .loop c=>GT N c
 | .exit _=>true
 | .ret=>true
def NL (N:Nat):It->Bool
 | .code c=>GT N c
 | .gq ts _=>ts.all λ t=>Nat.blt t N
 | .c7 _=>true
 | .lp c=>GT N c
structure Gh (N:Nat) (G T T':Tm):Prop where
 lo : ∀ j,j<N->c6 T' j=c6 T j
 hi : ∀ j,N<=j->c6 T' j=c6 G j
variable {N:Nat} {G:Tm}
theorem OC {a b:Nat}:Nat.blt a b=true↔a<b:=by simp [Nat.blt];omega
theorem Gh.ev {st:St} {T':Tm} {o:AE} (h:Gh N G st.tm T') {x:AM} (hx:B5 N x=true):St.ev ⟨T',o⟩ x=st.ev x:=by
 cases x with
 | t n=>exact h.lo n (OC.1 hx)
 | c v=>rfl
theorem O1 {f g:AM->AV} {xs:List AM} (h : ∀ x,B5 N x=true->f x=g x) (hx:xs.all (B5 N)=true):xs.map f=xs.map g:=by
 apply List.map_congr_left;intro x hm;exact h x (List.all_eq_true.1 hx x hm)
theorem uA {C:Cl} {a7:List Nat} {ρ ρ':AM->AV} {own:AE} (h : ∀ x,B5 N x=true->ρ' x=ρ x) : ∀ (op:C2),SD N op=true->c5 C a7 ρ' own op=c5 C a7 ρ own op:=by
 intro op j5;cases op;case build zero ps =>
  have:(ps.map λ p=>(p.1,p.2.1,ρ' p.2.2))=ps.map λ p=>(p.1,p.2.1,ρ p.2.2):=by
   apply List.map_congr_left;intro p hm;rw[h _ (List.all_eq_true.1 j5 p hm)]
  simp only[c5,this]
 case b9 s a4 ps =>
  have:ps.mapM (λ x=>cellsOf (ρ' x))=ps.mapM (λ x=>cellsOf (ρ x)):=by
   have lj:ps.all (B5 N)=true:=j5;clear j5;induction ps with
   | nil=>rfl
   | cons p r ih =>
    simp only[List.all_cons,Bool.and_eq_true]at lj;simp only[List.mapM_cons,h _ lj.1,ih lj.2]
  simp only[c5,this]
 case mm m xs=>simp only[c5,O1 h j5]
 case call f xs=>simp only[c5,O1 h j5]
 case c4 f xs=>simp only[c5,O1 h j5]
 case jb p f xs =>
  have:xs.mapM (λ x=>FQ (ρ' x))=xs.mapM (λ x=>FQ (ρ x)):=by
   have lj:xs.all (B5 N)=true:=j5;clear j5;induction xs with
   | nil=>rfl
   | cons p r ih =>
    simp only[List.all_cons,Bool.and_eq_true]at lj;simp only[List.mapM_cons,h _ lj.1,ih lj.2]
  simp only[c5,this]
 case l7 f xs=>simp only[c5,O1 h j5]
 case n6 s f xs=>simp only[c5,O1 h j5]
 case w5 s f xs=>simp only[c5,O1 h j5]
 case l8 x xs =>
  simp only[SD,Bool.and_eq_true]at j5;simp only[c5,O1 h j5.2,h _ j5.1]
 case de a4 x lo hi =>
  simp only[SD,Bool.and_eq_true]at j5;obtain ⟨h1,h2,h3⟩:=j5;cases lo<;>cases hi<;>simp only[Option.all_some,Option.all_none]at h2 h3<;>simp only[c5,h _ h1,h _,h2,h3]
 all_goals (simp only[SD,Bool.and_eq_true]at j5;simp only[c5,h _,j5])
theorem Gh.dst {T T':Tm} (h:Gh N G T T') {d:Nat} (hd:d<N) (v:AV):Gh N G (df T d v) (df T' d v):=by
 constructor
 ·intro j hj
  rw[S1,S1,h.lo j hj]
 ·intro j hj
  rw[S1,h.hi j hj,if_neg (by omega)]
theorem Gh.fv {T T':Tm} {o:AE} (h:Gh N G T T') {d:Option Nat} (hd:(d.all λ d=>Nat.blt d N)=true) (v:AV):((⟨T',o⟩:St).dst d v).own=((⟨T,o⟩:St).dst d v).own/\Gh N G ((⟨T,o⟩:St).dst d v).tm ((⟨T',o⟩:St).dst d v).tm:=by
 cases d with
 | none=>exact ⟨rfl,h⟩
 | some d=>exact ⟨rfl,h.dst (OC.1 hd) v⟩
theorem Lp {C:Cl} {a:AI} (ha:RE N a=true) {T T':Tm} {o:AE} (h:Gh N G T T') {s':St} (hs:B6 C a ⟨T',o⟩=some s') : ∃ s,B6 C a ⟨T,o⟩=some s/\s'.own=s.own/\Gh N G s.tm s'.tm:=by
 simp only[RE,Bool.and_eq_true]at ha;obtain ⟨h1,h2,h3⟩:=ha;have hg:EC ⟨T',o⟩ a.guard=EC ⟨T,o⟩ a.guard:=by
  cases Nr:a.guard with
  | none=>rfl
  | some g =>
   rw[Nr]at h2;simp only[EC,h.lo _ (OC.1 h2)]
 have he:=uA (C:=C) (a7:=a.a7) (own:=o) (ρ:=St.ev ⟨T,o⟩) (ρ':=St.ev ⟨T',o⟩) (λ x hx=>Gh.ev (st:=⟨T,o⟩) h hx) a.op h3;unfold B6 at hs ⊢;rw[hg,he]at hs;cases ve:EC ⟨T,o⟩ a.guard with
 | none=>rw[ve]at hs;cases hs
 | some b =>
  rw[ve]at hs;cases b with
  | false =>
   simp only[Option.some.injEq]at hs ⊢;subst hs;exact ⟨_,rfl,h.fv h1 _⟩
  | true =>
   simp only at hs ⊢;cases Fz:c5 C a.a7 (St.ev ⟨T,o⟩) o a.op with
   | none=>rw[Fz]at hs;cases hs
   | some e =>
    rw[Fz]at hs;simp only[Option.map_some,Option.some.injEq]at hs ⊢;subst hs;refine ⟨_,rfl,?_⟩;cases e with
    | val v=>exact h.fv h1 v
    | new s b v=>exact ⟨rfl,(h.fv (o:=o) h1 _).2⟩
    | qb s b v=>exact ⟨rfl,(h.fv (o:=o) h1 _).2⟩
    | aj v o'=>exact ⟨rfl,(h.fv (o:=o) h1 _).2⟩
    | m9 s x=>exact ⟨rfl,(h.fv (o:=o) h1 _).2⟩
    | og s x v=>exact ⟨rfl,(h.fv (o:=o) h1 _).2⟩
    | ru s v o'=>exact ⟨rfl,(h.fv (o:=o) h1 _).2⟩
theorem lF {C:Cl} : ∀ {l:List AI},l.all (RE N)=true -> ∀ {T T':Tm} {o:AE},Gh N G T T' -> ∀ {s':St},CI C l ⟨T',o⟩=some s' -> ∃ s,CI C l ⟨T,o⟩=some s/\s'.own=s.own/\Gh N G s.tm s'.tm
 | [],_,T,T',o,h,s',hs=>by
  simp only[CI,Option.some.injEq]at hs;subst hs;exact ⟨_,rfl,rfl,h⟩
 | a::l,ha,T,T',o,h,s',hs=>by
  simp only[List.all_cons,Bool.and_eq_true]at ha;simp only[CI]at hs;cases h1:B6 C a ⟨T',o⟩ with
  | none=>rw[h1]at hs;cases hs
  | some s1 =>
   rw[h1]at hs;obtain ⟨s2,e1,e2,e3⟩:=Lp ha.1 h h1;obtain ⟨T1,o1⟩:=s1;obtain ⟨T2,o2⟩:=s2;simp only at e2 e3;subst e2;obtain ⟨s3,f1,f2,f3⟩:=lF ha.2 e3 hs;exact ⟨s3,by simp only[CI,e1,f1],f2,f3⟩
theorem RY {id:Nat} : ∀ {k k':List It},k.all (NL N)=true->EG id k=some k'->k'.all (NL N)=true
 | [],_,_,h=>by simp [EG]at h
 | it::k,k',hk,h=>by
  simp only[List.all_cons,Bool.and_eq_true]at hk;cases it with
  | c7 i =>
   simp only[EG]at h;split at h
   ·cases h;exact hk.2
   ·exact RY hk.2 h
  | code c=>simp only[EG]at h;exact RY hk.2 h
  | gq a b=>simp only[EG]at h;exact RY hk.2 h
  | lp c=>simp only[EG]at h;exact RY hk.2 h
theorem HH {C:Cl} : ∀ (n:Nat) {k:List It},k.all (NL N)=true -> ∀ {T T':Tm} {o:AE},Gh N G T T' -> ∀ {s':St},run C n k ⟨T',o⟩=some s' -> ∃ s,run C n k ⟨T,o⟩=some s/\s'.own=s.own/\Gh N G s.tm s'.tm
 | 0,k,_,T,T',o,_,s',hs=>by simp [run]at hs
 | n+1,[],_,T,T',o,h,s',hs=>by
  simp only[run,Option.some.injEq]at hs ⊢;subst hs;exact ⟨_,rfl,rfl,h⟩
 | n+1,.c7 _::k,hk,T,T',o,h,s',hs=>by
  simp only[List.all_cons,Bool.and_eq_true]at hk;simp only[run]at hs ⊢;exact HH n hk.2 h hs
 | n+1,.gq ts ss::k,hk,T,T',o,h,s',hs=>by
  simp only[List.all_cons,Bool.and_eq_true]at hk;simp only[run]at hs ⊢;refine HH n hk.2 ⟨λ j hj => ?_,λ j hj => ?_⟩ hs
  ·rw[QW,QW,h.lo j hj]
  ·rw[QW,h.hi j hj,if_neg]
   intro hc;have:=List.all_eq_true.1 hk.1 j (by simpa using hc)
   have:=OC.1 this
   omega
 | n+1,.lp c::k,hk,T,T',o,h,s',hs=>by
  simp only[run]at hs ⊢;have cj:=hk;simp only[List.all_cons,Bool.and_eq_true]at hk;exact HH n (by simp only[List.all_cons,Bool.and_eq_true];exact ⟨hk.1,hk.1,hk.2⟩) h hs
 | n+1,.code c::k,hk,T,T',o,h,s',hs=>by
  simp only[List.all_cons,Bool.and_eq_true]at hk;obtain ⟨hc,hk⟩:=hk;cases c with
  | skip=>simp only[run]at hs ⊢;exact HH n hk h hs
  | ops l d =>
   simp only[run]at hs ⊢;cases h1:CI C l ⟨T',o⟩ with
   | none=>rw[h1]at hs;cases hs
   | some s1 =>
    rw[h1]at hs;obtain ⟨s2,e1,e2,e3⟩:=lF (show l.all (RE N)=true from hc) h h1;obtain ⟨T1,o1⟩:=s1;obtain ⟨T2,o2⟩:=s2;simp only at e2 e3;subst e2;rw[e1];exact HH n hk e3 hs
  | dr c ts ss =>
   simp only[run]at hs ⊢;simp only[NL,GT,Bool.and_eq_true]at hc;exact HH n (by simp only[List.all_cons,Bool.and_eq_true];exact ⟨hc.1,hc.2,hk⟩) h hs
  | scope c =>
   simp only[run]at hs ⊢;exact HH n (by simp only[List.all_cons,Bool.and_eq_true];exact ⟨hc,hk⟩) h hs
  | seq a b =>
   simp only[run]at hs ⊢;simp only[NL,GT,Bool.and_eq_true]at hc;exact HH n (by simp only[List.all_cons,Bool.and_eq_true];exact ⟨hc.1,hc.2,hk⟩) h hs
  | cond x a b =>
   simp only[NL,GT,Bool.and_eq_true]at hc;simp only[run,Gh.ev (st:=⟨T,o⟩) h hc.1]at hs ⊢;cases hx:St.ev ⟨T,o⟩ x<;>rw[hx]at hs<;>try (simp at hs;done)
   rename_i q;cases q
   ·exact HH n (by simp only[List.all_cons,Bool.and_eq_true];exact ⟨hc.2.2,hk⟩) h hs
   ·exact HH n (by simp only[List.all_cons,Bool.and_eq_true];exact ⟨hc.2.1,hk⟩) h hs
  | block id c =>
   simp only[run]at hs ⊢;exact HH n (by simp only[List.all_cons,Bool.and_eq_true];exact ⟨hc,rfl,hk⟩) h hs
  | loop c =>
   simp only[run]at hs ⊢;exact HH n (by simp only[List.all_cons,Bool.and_eq_true];exact ⟨hc,hc,hk⟩) h hs
  | exit id =>
   simp only[run]at hs ⊢;cases he:EG id k with
   | none=>rw[he]at hs;cases hs
   | some k' =>
    rw[he]at hs;exact HH n (RY hk he) h hs
  | ret =>
   simp only[run,Option.some.injEq]at hs ⊢;subst hs;exact ⟨_,rfl,rfl,h⟩
def FH (N:Nat):Tm->Tm
 | []=>[]
 | (i,v)::r=>(N+i,v)::FH N r
def gh (N:Nat):Tm->Tm
 | []=>[]
 | (i,v)::r=>bif Nat.ble N i then (Nat.sub i N,v)::gh N r else gh N r
theorem Z9 (N j:Nat) : ∀ T:Tm,c6 (FH N T) (N+j)=c6 T j
 | []=>rfl
 | (i,v)::r=>by
  have ih:=Z9 N j r;simp only[FH,c6,ih];by_cases h:j=i
  ·simp [h]
  ·rw[if_neg h,if_neg (by omega)]
theorem aA {N j:Nat} (hj:j<N) : ∀ T:Tm,c6 (FH N T) j = .any
 | []=>rfl
 | (i,v)::r=>by
  simp only[FH,c6,aA hj r];rw[if_neg (by omega)]
theorem Z7 (N j:Nat) : ∀ T:Tm,c6 (gh N T) j=c6 T (N+j)
 | []=>rfl
 | (i,v)::r=>by
  have ih:=Z7 N j r;simp only[gh];cases h:Nat.ble N i
  ·have h1 : ¬ N<=i:=λ e=>by rw[Nat.ble_eq_true_of_le e]at h;cases h
   simp only[cond,c6,ih];rw[if_neg (by omega)]
  ·have h1:=Nat.le_of_ble_eq_true h
   simp only[cond,c6,ih];by_cases h2:j=i-N
   ·rw[if_pos (show j=Nat.sub i N from h2),if_pos (by omega)]
   ·rw[if_neg (show ¬ j=Nat.sub i N from h2),if_neg (by omega)]
def JV (f:AV->AV):Tm->Tm
 | []=>[]
 | (i,v)::r=>(i,f v)::JV f r
theorem IE {f:AV->AV} (hf:f .any = .any) (j:Nat) : ∀ T:Tm,c6 (JV f T) j=f (c6 T j)
 | []=>hf.symm
 | (i,v)::r=>by
  simp only[JV,c6,IE hf j r];by_cases h:j=i<;>simp [h]
theorem X8 (f:AV->AV) : ∀ (i:Nat) (vs:List AV),BX i (vs.map f)=JV f (BX i vs)
 | _,[]=>rfl
 | i,v::r=>by simp only[List.map_cons,BX,JV,X8 f (i+1) r]
theorem SZ (j:Nat) (b:Tm) : ∀ a:Tm,((a.any λ p=>p.1 == j)=true/\c6 (a++b) j=c6 a j)\/((a.any λ p=>p.1 == j)=false/\c6 (a++b) j=c6 b j)
 | []=>Or.inr ⟨rfl,rfl⟩
 | (i,v)::r=>by
  by_cases h:j=i
  ·subst h
   exact Or.inl (by simp [c6])
  ·have h' : ¬ i=j:=λ e=>h e.symm
   rcases SZ j b r with ⟨h1,h2⟩|⟨h1,h2⟩
   ·exact Or.inl ⟨by rw[List.any_cons,h1,Bool.or_true],by simp only[List.cons_append,c6,if_neg h,h2]⟩
   ·exact Or.inr ⟨by rw[List.any_cons,h1,Bool.or_false];simpa using h',by simp only[List.cons_append,c6,if_neg h,h2]⟩
theorem X7 (j:Nat) : ∀ (i:Nat) (vs:List AV),((BX i vs).any λ p=>p.1 == j)=true->j<i+vs.length
 | _,[],h=>by simp [BX]at h
 | i,v::r,h=>by
  simp only[BX,List.any_cons,Bool.or_eq_true,beq_iff_eq]at h;rcases h with h|h
  ·simp;omega
  ·have:=X7 j (i+1) r h
   simp;omega
theorem Z8 (j:Nat) : ∀ (i:Nat) (vs:List AV),((BX i vs).any λ p=>p.1 == j)=false->c6 (BX i vs) j = .any
 | _,[],_=>rfl
 | i,v::r,h=>by
  simp only[BX,List.any_cons,Bool.or_eq_false_iff,beq_eq_false_iff_ne]at h;simp only[BX,c6];rw[if_neg λ e=>h.1 e.symm,Z8 j (i+1) r h.2]
theorem IZ (σ:EJ):A7 σ .any = .any:=rfl
def NS (tm:Tm):List HU->Option (List AV)
 | []=>some []
 | .tmp t::r=>match HF (tg tm t),NS tm r with
  | some v,some vs=>some (v::vs)
  | _,_=>none
 | .cell _ _ _::_=>none
def SK (N:Nat):List HU->Bool
 | []=>true
 | .tmp t::r=>Nat.blt t N&&SK N r
 | .cell _ _ _::_=>false
def aZ (N:Nat) (fn:AFn) (tm:Tm) (K:AV->Mem->Prop) (u7:Tm) (M':Mem):Prop:=gh N u7=tm /\ ∃ rs,NS u7 fn.res=some rs/\K (GM rs) M'
theorem Iu {σ:EJ} {v u:AV} (h:HF v=some u):u=v/\A7 σ v=BC σ v/\HF (A7 σ v)=some (A7 σ v):=by
 cases v<;>simp [HF]at h<;>subst h<;>exact ⟨rfl,rfl,rfl⟩
theorem ZB {σ:EJ} {u7:Tm} {M:Mem} {s s':St} (hr:RX σ u7 M s') (gx : ∀ j,j<N->c6 s'.tm j=c6 s.tm j) : ∀ {res:List HU} {rs:List AV},SK N res=true->NS u7 res=some rs->res.mapM (D7 s)=some (rs.map (BC σ)) /\ ∀ v∈rs,A7 σ v=BC σ v
 | [],rs,_,h=>by
  simp only[NS,Option.some.injEq]at h;subst h;exact ⟨rfl,by simp⟩
 | .cell _ _ _::_,_,_,h=>by simp [NS]at h
 | .tmp t::r,rs,hl,h=>by
  simp only[SK,Bool.and_eq_true]at hl;simp only[NS]at h;cases h1:HF (tg u7 t) with
  | none=>rw[h1]at h;simp at h
  | some v =>
   cases h2:NS u7 r with
   | none=>rw[h1,h2]at h;simp at h
   | some vs =>
    rw[h1,h2]at h;simp only[Option.some.injEq]at h;subst h;obtain ⟨i1,i2⟩:=ZB hr gx hl.2 h2;obtain ⟨rfl,j2,j3⟩:=Iu (σ:=σ) h1;have:c6 s.tm t=A7 σ (tg u7 t):=by
     rcases hr.tm t with e|e
     ·rw[e]at h1;cases h1
     ·rw[<-gx t (OC.1 hl.1),e]
    refine ⟨?_,?_⟩
    ·rw[j2]at j3 this
     simp only[List.mapM_cons,D7,this,j3,i1,List.map_cons];rfl
    ·intro v hv
     simp only[List.mem_cons]at hv;rcases hv with rfl|hv
     ·exact j2
     ·exact i2 v hv
theorem kA {σ:EJ} {rs:List AV} (h : ∀ v∈rs,A7 σ v=BC σ v):GM (rs.map (BC σ))=A7 σ (GM rs):=by
 match rs,h with
 | [],_=>rfl
 | [v],h=>exact (h v (by simp)).symm
 | _::_::_,_=>rfl
theorem FA {f:Nat} {fn:AFn} {vs:List AV} {tm:Tm} {M:Mem} {K:AV->Mem->Prop} (N:Nat) (hL:L f=some fn) (hp:Nat.beq vs.length fn.u6=true) (hN:(Nat.ble fn.u6 N&&(GT N fn.body&&SK N fn.res))=true)
  (h:AA L [.code fn.body] (BX 0 vs++FH N tm) M (aZ N fn tm K)):A5 L f vs tm M K:=by
 intro σ own hs;simp only[Bool.and_eq_true]at hN;obtain ⟨n1,n2,n3⟩:=hN;have n1:=Nat.le_of_ble_eq_true n1;have hp:vs.length=fn.u6:=Nat.eq_of_beq_eq_true hp;have Ef:RX σ (BX 0 vs++FH N tm) M ⟨JV (A7 σ) (BX 0 vs++FH N tm),own⟩:=⟨λ j=>Or.inr (by rw[ID];exact IE (IZ σ) j _),hs⟩;obtain ⟨n,c,s',hr,σ',u7,M',hR,hg,rs,Ed,hk⟩:=h σ _ Ef;have Cr:Gh N (JV (A7 σ) (FH N tm)) (BX 0 (vs.map (A7 σ))) (JV (A7 σ) (BX 0 vs++FH N tm)):=by
  constructor
  ·intro j hj
   rw[X8,IE (IZ σ),IE (IZ σ)];rcases SZ j (FH N tm) (BX 0 vs) with ⟨_,e⟩|⟨hn,e⟩
   ·rw[e]
   ·rw[e,aA hj,Z8 j 0 vs hn]
  ·intro j hj
   rw[IE (IZ σ),IE (IZ σ)];rcases SZ j (FH N tm) (BX 0 vs) with ⟨hn,e⟩|⟨_,e⟩
   ·have:=X7 j 0 vs hn
    omega
   ·rw[e]
 obtain ⟨s,r1,r2,r3⟩:=HH n (by simp [NL,n2]) Cr hr;obtain ⟨i1,i2⟩:=ZB (s:=s) hR r3.lo n3 Ed;refine ⟨GM rs,s.own,σ',M',FM.intro hL (by simpa using hp) ⟨n,c,s,r1,?_,rfl⟩,?_,?_,hk⟩
 ·rw[i1,Option.map_some,kA i2]
 ·rw[<-r2];exact hR.sat
 ·intro j
  have e1:tg tm j=tg u7 (N+j):=by rw[ID,ID,<-hg,Z7]
  rcases hR.tm (N+j) with e|e
  ·rw[e1,e];rfl
  ·rw[e1,<-e,r3.hi (N+j) (by omega),IE (IZ σ),Z9,<-ID,e1]
theorem WA {α:Type} {enc:α->List AV} {l:List α} {i:Nat} {vs:List AV} {K:List (List AV)->Prop} (n:Nat) (e:α) (hn:i=n) (he:vs=enc e) (hz : ∀ x,(enc x).length=vs.length) (hi:n<l.length) (h:K ((l.set n e).map enc)):A9 (l.map enc) i 0 vs K:=by
 subst hn;exact oP e he hz hi h
theorem FL {x:Int} {len:Nat} {K:Nat->Nat->Prop} (h:Nat) (hx:x=h) (hl:h<=len) (hk:K 0 h):BP none (some x) len K:=⟨0,h,rfl,⟨by omega,by omega,by omega⟩,by omega,hk⟩
end Go.c8

namespace Go.c8
section
variable {K:AV->Prop} {a b:Nat} {k':IntKind}
theorem wrap_u32 (n:Nat):IntKind.u32.wrap (n:Int)=((n%4294967296:Nat):Int):=by rw[IntKind.wrap_u32];omega
theorem Lb (n:Nat):IntKind.u64.wrap (n:Int)=((n%18446744073709551616:Nat):Int):=by
 simp [IntKind.wrap,IntKind.bits,IntKind.signed]
theorem E5 (h:a+b<=18446744073709551615) (hk:K (.int .u64 ((a+b:Nat):Int))):AB .add .u64 (a:Int) .u64 (b:Int) K :=
 ⟨_,by simp only[CD,if_true];rw[IntWalk.u64_in _ (by omega)],by simpa using hk⟩
theorem HN (h:b<=a) (h2:a<=18446744073709551615) (hk:K (.int .u64 ((a-b:Nat):Int))):AB .sub .u64 (a:Int) .u64 (b:Int) K :=
 ⟨_,by simp only[CD,if_true];rw[IntWalk.u64_in _ (by omega)],by rw[show (a:Int)-b=((a-b:Nat):Int) by omega];exact hk⟩
theorem TE (h:b<=18446744073709551616) (hk:K (.int .u64 ((DI a b:Nat):Int))):AB .sub .u64 (a:Int) .u64 (b:Int) K :=
 S9 (v := .int .u64 (IntKind.u64.wrap ((a:Int)-b))) (by simp only[CD,if_true]) (by
  have e:IntKind.u64.wrap ((a:Int)-b)=((DI a b:Nat):Int):=by
   rw[PM];simp only[IntKind.wrap,IntKind.bits,IntKind.signed];simp;omega
  rw[e];exact hk)
theorem MG (h:a*b<=18446744073709551615) (hk:K (.int .u64 ((a*b:Nat):Int))):AB .mul .u64 (a:Int) .u64 (b:Int) K :=
 ⟨_,by simp only[CD,if_true];rw[<-Int.natCast_mul,IntWalk.u64_in _ (by omega)],hk⟩
theorem TC (h:0<b) (h2:a<=18446744073709551615) (hk:K (.int .u64 ((a/b:Nat):Int))):AB .quo .u64 (a:Int) .u64 (b:Int) K:=by
 refine ⟨_,by simp only[CD];rw[if_pos ⟨trivial,by omega⟩],?_⟩;rw[IntWalk.u64_quo _ _ ⟨by omega,by omega,by omega⟩,<-Int.natCast_ediv];exact hk
theorem Q7 (h:0<b) (hk:K (.int .u64 ((a%b:Nat):Int))):AB .rem .u64 (a:Int) .u64 (b:Int) K:=by
 refine ⟨_,by simp only[CD];rw[if_pos ⟨trivial,by omega⟩],?_⟩;rw[IntWalk.rem_in _ _ (by omega),<-Int.natCast_emod];exact hk
theorem Ig {k:IntKind} {n:Nat} (hn:n<=k.bits):CD .shl k (a:Int) k' (n:Int)=some (.int k (k.wrap ((a*2^n:Nat):Int))):=by
 simp only[CD];rw[if_neg (by omega),Int.toNat_natCast,Nat.min_eq_left hn];simp
theorem Ij {k:IntKind} {n:Nat} (hn:n<=k.bits):CD .shr k (a:Int) k' (n:Int)=some (.int k ((a/2^n:Nat):Int)):=by
 simp only[CD];rw[if_neg (by omega),Int.toNat_natCast,Nat.min_eq_left hn,Int.fdiv_eq_ediv_of_nonneg _ (Int.le_of_lt (Int.pow_pos (by omega)))];simp
theorem V7 {k:IntKind} {n:Nat} (hn:n<=k.bits) (hk:K (.int k (k.wrap ((a*2^n:Nat):Int)))):AB .shl k (a:Int) k' (n:Int) K:=⟨_,Ig hn,hk⟩
theorem MI {k:IntKind} {n:Nat} (hn:n<=k.bits) (hk:K (.int k ((a/2^n:Nat):Int))):AB .shr k (a:Int) k' (n:Int) K:=⟨_,Ij hn,hk⟩
theorem LV (h:a<=4294967295) (hk:K (.int .u64 ((a*4294967296:Nat):Int))):AB .shl .u64 (a:Int) k' 32 K:=by
 refine V7 (n:=32) (by decide) ?_;rw[Lb,show a*2^32%18446744073709551616=a*4294967296 by omega];exact hk
theorem EF (hk:K (.int .u64 ((a/4294967296:Nat):Int))):AB .shr .u64 (a:Int) k' 32 K:=MI (n:=32) (by decide) hk
theorem TD (hk:K (.int .u64 ((a/9223372036854775808:Nat):Int))):AB .shr .u64 (a:Int) k' 63 K:=MI (n:=63) (by decide) hk
theorem oD (hk:K (.int .u64 ((a/4:Nat):Int))):AB .shr .u64 (a:Int) k' 2 K:=MI (n:=2) (by decide) hk
theorem oC (hk:K (.int .u32 ((a/65536:Nat):Int))):AB .shr .u32 (a:Int) k' 16 K:=MI (n:=16) (by decide) hk
theorem oE (hk:K (.int .u32 ((a/256:Nat):Int))):AB .shr .u32 (a:Int) k' 8 K:=MI (n:=8) (by decide) hk
theorem oB (hk:K (.int .u32 ((a/2:Nat):Int))):AB .shr .u32 (a:Int) k' 1 K:=MI (n:=1) (by decide) hk
theorem YS (w n:Nat):(BitVec.ofInt w (n:Int)).toNat=n%2^w:=by rw[BitVec.toNat_ofInt];omega
theorem Ka {n x y:Nat} (hx:x%2^n=0) (hy:y<2^n):x ||| y=x+y:=by
 have e:x=2^n*(x/2^n):=by have:=Nat.mod_add_div x (2^n);omega
 rw[e,<-Nat.two_pow_add_eq_or_of_lt hy]
theorem V6 {k:IntKind} (n:Nat) (hx:a%2^n=0) (hy:b<2^n) (h:a+b<2^k.bits) (hw:k.wrap ((a+b:Nat):Int)=((a+b:Nat):Int)) (hk:K (.int k ((a+b:Nat):Int))):AB .or k (a:Int) k (b:Int) K:=by
 refine S9 (v := .int k (k.wrap (BitVec.ofInt k.bits (a:Int) ||| BitVec.ofInt k.bits (b:Int)).toNat)) (by simp only[CD,if_true]) ?_;rw[BitVec.toNat_or,YS,YS,Nat.mod_eq_of_lt (by omega),Nat.mod_eq_of_lt (by omega),Ka hx hy,hw];exact hk
theorem MH (h:a%4294967296=0/\b<4294967296/\a+b<=18446744073709551615) (hk:K (.int .u64 ((a+b:Nat):Int))):AB .or .u64 (a:Int) .u64 (b:Int) K :=
 V6 32 h.1 h.2.1 (show a+b<18446744073709551616 by omega) (IntWalk.u64_in _ (by omega)) hk
theorem aR (h:a<=18446744073709551615) (hk:K (.int .u64 ((a%4294967296:Nat):Int))):AB .and .u64 (a:Int) .u64 4294967295 K:=by
 refine S9 (v := .int .u64 (IntKind.u64.wrap (BitVec.ofInt IntKind.u64.bits (a:Int) &&& BitVec.ofInt IntKind.u64.bits 4294967295).toNat)) (by simp only[CD,if_true]) ?_;rw[BitVec.toNat_and,YS,show (BitVec.ofInt IntKind.u64.bits 4294967295).toNat=2^32-1 by decide,Nat.and_two_pow_sub_one_eq_mod,show a%2^IntKind.u64.bits=a from Nat.mod_eq_of_lt (show a<18446744073709551616 by omega),IntWalk.u64_in _ (by omega)];exact hk
theorem aQ (hk:K (.int .u32 (((a+b)%4294967296:Nat):Int))):AB .add .u32 (a:Int) .u32 (b:Int) K :=
 S9 (v := .int .u32 (IntKind.u32.wrap ((a:Int)+b))) (by simp only[CD,if_true]) (by rw[<-Int.natCast_add,wrap_u32];exact hk)
end
section
variable {K:Int->Prop} {n:Nat}
theorem aL (h:n<=18446744073709551615) (hk:K (n:Int)):AW .u64 (n:Int) K:=Q1 (IntWalk.u64_in _ (by omega)) hk
theorem DD (h:n<=4294967295) (hk:K (n:Int)):AW .u32 (n:Int) K:=Q1 (IntWalk.u32_in _ (by omega)) hk
theorem ET (hk:K ((n%4294967296:Nat):Int)):AW .u32 (n:Int) K:=⟨by rw[wrap_u32];exact hk⟩
theorem nU (h:n<=255) (hk:K (n:Int)):AW .u8 (n:Int) K:=Q1 (IntWalk.u8_in _ (by omega)) hk
end
theorem TK {tb:List Nat} {n v:Nat} {K:Nat->Prop} (hv:tb[n]? = some v) (hk:K v):N9 tb (n:Int) K:=⟨by omega,v,by rw[Int.toNat_natCast];exact hv,hk⟩
abbrev AJ (n:Nat):List AV:=[.int .u32 (n:Int)]
theorem CR (l:List Nat):FB (l.map AJ):=TY (λ_=>by simp [CG,AZ]) l
section
variable {l:List Nat} {K:List AV->Prop}
theorem TF {n:Nat} (hD:AR l) (hn:n<l.length) (h : ∀ e,l[n]? = some e->e<4294967296->K (AJ e)):AY (l.map AJ) (n:Int) 1 K :=
 NB hn (λ_=>rfl) λ e he=>h e he (hD.at he)
theorem NA {a:Int} (hD:AR l) (hn:0<=a/\a<l.length) (h : ∀ e,l[a.toNat]? = some e->e<4294967296->K (AJ e)):AY (l.map AJ) a 1 K :=
 aY hn (λ_=>rfl) λ e he=>h e he (hD.at he)
theorem aO {i:Nat} (hD:AR l) (hi:i<l.length) (h : ∀ e,l[i]? = some e->e<4294967296->K (AJ e)):BB (l.map AJ) (0+((i:Int)).toNat) 0 1 K :=
 Q6 (f:=AJ) hi (λ_=>rfl) λ e he=>h e he (hD.at he)
theorem N6 {i:Int} (hD:AR l) (hi:0<=i/\i<l.length) (h : ∀ e,l[i.toNat]? = some e->e<4294967296->K (AJ e)):BB (l.map AJ) (0+i.toNat) 0 1 K :=
 PS (f:=AJ) hi (λ_=>rfl) λ e he=>h e he (hD.at he)
theorem EA {i v:Nat} {KK:List (List AV)->Prop} (hi:i<l.length) (h:KK ((l.set i v).map AJ)):A9 (l.map AJ) (0+((i:Int)).toNat) 0 [.int .u32 (v:Int)] KK:=GI (enc:=AJ) v rfl (λ_=>rfl) hi h
theorem TJ {i v:Nat} {KK:List (List AV)->Prop} (n:Nat) (hn:i=n) (hi:n<l.length) (h:KK ((l.set n v).map AJ)):A9 (l.map AJ) i 0 [.int .u32 (v:Int)] KK:=WA (enc:=AJ) n v hn rfl (λ_=>rfl) hi h
end
end Go.c8
namespace Go.c8
variable {L:Lib}
theorem Ev.xE {f:Nat} {fn:AFn} {vs:List AV} {P:AV->Prop} (hL:L f=some fn) (hp:Nat.beq vs.length fn.u6=true) (hd:IO vs=true) (h:AA L [.code fn.body] (BX 0 vs) [] (λ tm M => ∃ r,NC fn r tm M/\P r)) (hs:fn.je=false:=by rfl) : ∃ r,Ev L f vs r/\P r:=by
 obtain ⟨n,c,e9,hr,σ,tm,M,hR,r,hq,hP⟩:=h (λ_ _=>(0,0)) ⟨BX 0 vs,AE.emp⟩ ⟨λ j=>Or.inr (by rw[ID];exact RM hd j),⟨(λ_ _ _ e=>by cases e),(λ_ _ _ e=>by simp [b7,b8]at e),(λ_ _ _ e=>by simp [b7,b8]at e),(λ_ _ _ _ _ _ e=>by simp [b7,b8]at e),(λ_ _ _ e=>by simp [b7,b8]at e)⟩⟩;exact ⟨r,Ev.fwd hL (BI.1 hp) ⟨n,c,e9,hr,bB hR hq⟩ hs,hP⟩
def QN:C2->Bool
 | .u9 .. | .box .. | .alloc .. | .b9 .. | .st .. | .mk .. | .app .. | .c4 .. | .l8 .. | .il .. | .n6 .. | .w5 .. => false
 | _=>true
def GU:A8->Bool
 | .skip=>true
 | .ops l _=>l.all λ a=>QN a.op
 | .dr c _ ss=>GU c&&ss.isEmpty
 | .scope c=>GU c
 | .seq a b=>GU a&&GU b
 | .cond _ a b=>GU a&&GU b
 | .block _ c=>GU c
 | .loop c=>GU c
 | .exit _=>true
 | .ret=>true
def MP:It->Bool
 | .code c=>GU c
 | .gq _ ss=>ss.isEmpty
 | .c7 _=>true
 | .lp c=>GU c
theorem uD {C:Cl} {a7:List Nat} {ρ:AM->AV} {own:AE} {op:C2} {E:BM} (ho:QN op=true) (h:c5 C a7 ρ own op=some E) : ∃ v,E = .val v:=by
 cases op<;>first|(simp [QN]at ho;done)|skip
 all_goals simp only[c5]at h
 all_goals
  first
   | (simp only[Option.some.injEq]at h;exact ⟨_,h.symm⟩)
   | (simp only[Option.map_eq_some_iff]at h;obtain ⟨_,_,rfl⟩:=h;exact ⟨_,rfl⟩)
   | skip
 all_goals (repeat' split at h)
 all_goals
  first
   | (cases h;done)
   | (simp only[Option.some.injEq]at h;exact ⟨_,h.symm⟩)
   | (simp only[Option.map_eq_some_iff]at h;obtain ⟨_,_,rfl⟩:=h;exact ⟨_,rfl⟩)
theorem Lr {C:Cl} {a:AI} (ho:QN a.op=true) {s s':St} (h:B6 C a s=some s'):s'.own=s.own:=by
 unfold B6 at h;split at h
 ·cases he:c5 C a.a7 s.ev s.own a.op with
  | none=>rw[he]at h;cases h
  | some E =>
   rw[he]at h;obtain ⟨v,rfl⟩:=uD ho he;simp only[Option.map_some,Option.some.injEq]at h;subst h;simp only[St.app];cases a.dst<;>rfl
 ·simp only[Option.some.injEq]at h
  subst h;cases a.dst<;>rfl
 ·cases h
theorem lG {C:Cl} : ∀ {l:List AI},(l.all λ a=>QN a.op)=true -> ∀ {s s':St},CI C l s=some s'->s'.own=s.own
 | [],_,s,s',h=>by simp only[CI,Option.some.injEq]at h;rw[h]
 | a::l,ho,s,s',h=>by
  simp only[List.all_cons,Bool.and_eq_true]at ho;simp only[CI]at h;cases h1:B6 C a s with
  | none=>rw[h1]at h;cases h
  | some s1 =>
   rw[h1]at h;rw[lG ho.2 h,Lr ho.1 h1]
theorem RZ {id:Nat} : ∀ {k k':List It},k.all MP=true->EG id k=some k'->k'.all MP=true
 | [],_,_,h=>by simp [EG]at h
 | it::k,k',hk,h=>by
  simp only[List.all_cons,Bool.and_eq_true]at hk;cases it with
  | c7 i =>
   simp only[EG]at h;split at h
   ·cases h;exact hk.2
   ·exact RZ hk.2 h
  | code c=>simp only[EG]at h;exact RZ hk.2 h
  | gq a b=>simp only[EG]at h;exact RZ hk.2 h
  | lp c=>simp only[EG]at h;exact RZ hk.2 h
theorem HI {C:Cl} : ∀ (n:Nat) {k:List It},k.all MP=true -> ∀ {s s':St},run C n k s=some s'->s'.own=s.own
 | 0,k,_,s,s',h=>by simp [run]at h
 | n+1,[],_,s,s',h=>by
  simp only[run,Option.some.injEq]at h;rw[h]
 | n+1,it::k,hk,s,s',h=>by
  have cj:=hk;simp only[List.all_cons,Bool.and_eq_true]at hk;obtain ⟨hi,hk⟩:=hk;cases it with
  | c7 _=>simp only[run]at h;exact HI n hk h
  | gq ts ss =>
   have:ss=[]:=by simpa [MP] using hi
   subst this;simp only[run]at h;rw[HI n hk h];rfl
  | lp c=>simp only[run]at h;exact HI n (by simp only[List.all_cons,Bool.and_eq_true];exact ⟨hi,hi,hk⟩) h
  | code c =>
   cases c with
   | skip=>simp only[run]at h;exact HI n hk h
   | ops l d =>
    simp only[run]at h;cases h1:CI C l s with
    | none=>rw[h1]at h;cases h
    | some s1 =>
     rw[h1]at h;rw[HI n hk h,lG (show (l.all λ a=>QN a.op)=true from hi) h1]
   | dr c ts ss =>
    simp only[run]at h;simp only[MP,GU,Bool.and_eq_true]at hi;exact HI n (by simp only[List.all_cons,Bool.and_eq_true];exact ⟨hi.1,hi.2,hk⟩) h
   | scope c=>simp only[run]at h;exact HI n (by simp only[List.all_cons,Bool.and_eq_true];exact ⟨hi,hk⟩) h
   | seq a b =>
    simp only[run]at h;simp only[MP,GU,Bool.and_eq_true]at hi;exact HI n (by simp only[List.all_cons,Bool.and_eq_true];exact ⟨hi.1,hi.2,hk⟩) h
   | cond x a b =>
    simp only[MP,GU,Bool.and_eq_true]at hi;simp only[run]at h;split at h
    ·exact HI n (by simp only[List.all_cons,Bool.and_eq_true];exact ⟨hi.1,hk⟩) h
    ·exact HI n (by simp only[List.all_cons,Bool.and_eq_true];exact ⟨hi.2,hk⟩) h
    ·cases h
   | block id c=>simp only[run]at h;exact HI n (by simp only[List.all_cons,Bool.and_eq_true];exact ⟨hi,rfl,hk⟩) h
   | loop c=>simp only[run]at h;exact HI n (by simp only[List.all_cons,Bool.and_eq_true];exact ⟨hi,hi,hk⟩) h
   | exit id =>
    simp only[run]at h;split at h
    ·rename_i k' he
     exact HI n (RZ hk he) h
    ·cases h
   | ret =>
    simp only[run,Option.some.injEq]at h;rw[h]
def oM (fn:AFn) (r:AV) (tm:Tm) (_M:Mem):Prop := ∃ rs,NS tm fn.res=some rs/\GM rs=r
def T8:AV->Bool
 | .e7 vs=>IO vs
 | v=>NF v
theorem cV {σ:EJ} {v:AV} (h:T8 v=true):A7 σ v=v:=by
 cases v with
 | e7 vs =>
  simp only[A7];congr 1;simp only[T8]at h;induction vs with
  | nil=>rfl
  | cons v r ih =>
   simp only[IO]at h;cases hv:NF v<;>simp only[hv,cond_true,cond_false]at h
   ·cases h
   ·rw[List.map_cons,ih h]
    congr 1;cases v<;>first|rfl|(simp [NF,lz]at hv;done)|skip
    rename_i cs;exact T7 (σ:=σ) (v := .agg cs) hv
 | _=>exact T7 (σ:=σ) h
def RC (L:Lib) (f:Nat) (vs:List AV) (r:AV):Prop:=T8 r=true/\(∀ σ:EJ,vs.map (A7 σ)=vs) /\ ∀ own:AE,FM L f vs own r own
theorem cT {σ:EJ} : ∀ {vs:List AV},IO vs=true->vs.map (A7 σ)=vs
 | [],_=>rfl
 | v::r,h=>by
  simp only[IO]at h;cases hv:NF v<;>simp only[hv,cond_true,cond_false]at h
  ·cases h
  ·rw[List.map_cons,T7 hv,cT h]
theorem oN {f:Nat} {fn:AFn} {vs:List AV} {r:AV} (hL:L f=some fn) (hp:Nat.beq vs.length fn.u6=true) (hd:IO vs=true) (yq:GU fn.body=true) (k6:SK 100000 fn.res=true) (hr:T8 r=true) (h:AA L [.code fn.body] (BX 0 vs) [] (oM fn r)):RC L f vs r:=by
 refine ⟨hr,λ σ=>cT hd,λ own => ?_⟩;obtain ⟨n,c,e9,m7,σ,tm,M,hR,rs,Ed,he⟩:=h (λ_ _=>(0,0)) ⟨BX 0 vs,own⟩ ⟨λ j=>Or.inr (by rw[ID];exact RM hd j),⟨(λ_ _ _ e=>by cases e),(λ_ _ _ e=>by simp [b7,b8]at e),(λ_ _ _ e=>by simp [b7,b8]at e),(λ_ _ _ _ _ _ e=>by simp [b7,b8]at e),(λ_ _ _ e=>by simp [b7,b8]at e)⟩⟩;have ho:=HI n (by simp [MP,yq]) m7;obtain ⟨i1,i2⟩:=ZB (N:=100000) (s:=e9) hR (λ_ _=>rfl) k6 Ed;refine FM.intro hL (BI.1 hp) ⟨n,c,e9,m7,?_,ho⟩;rw[i1,Option.map_some,kA i2,he,cV hr]
theorem IJ {f:Nat} {vs:List AV} {r:AV} {tm:Tm} {M:Mem} {K:AV->Mem->Prop} (h:RC L f vs r) (hk:K r M):A5 L f vs tm M K:=by
 intro σ own hs;refine ⟨r,own,σ,M,?_,hs,λ_=>rfl,hk⟩;rw[h.2.1 σ,cV h.1];exact h.2.2 own
end Go.c8

namespace Go.c8
variable {L:Lib}
def bA (fn:AFn) (z:Nat) (es:List (List AV)) (tm:Tm) (M:Mem):Prop:=match fn.res with
 | [.tmp t]=>match tg tm t with
  | .row k 0 z' 0 n=>match b8 M k with
   | some (_,.rw bz es')=>z'=z/\bz=z/\n=es.length/\es'=es/\FB es
   | _=>False
  | _=>False
 | _=>False
theorem N2.x {f:Nat} {fn:AFn} {vs:List AV} {z:Nat} {es:List (List AV)} (hL:L f=some fn) (hp:Nat.beq vs.length fn.u6=true) (hd:IO vs=true) (h:AA L [.code fn.body] (BX 0 vs) [] (bA fn z es)):N2 L f vs z es:=by
 obtain ⟨n,c,e9,hr,σ,tm,M,hR,hq⟩:=h (λ_ _=>(0,0)) ⟨BX 0 vs,AE.emp⟩ ⟨λ j=>Or.inr (by rw[ID];exact RM hd j),⟨(λ_ _ _ e=>by cases e),(λ_ _ _ e=>by simp [b7,b8]at e),(λ_ _ _ e=>by simp [b7,b8]at e),(λ_ _ _ _ _ _ e=>by simp [b7,b8]at e),(λ_ _ _ e=>by simp [b7,b8]at e)⟩⟩;unfold bA at hq;split at hq
 ·rename_i t na
  split at hq
  ·rename_i k z' m Gx
   split at hq
   ·rename_i s bz es' hM
    obtain ⟨rfl,rfl,rfl,rfl,n0⟩:=hq;have hv:c6 e9.tm t = .row (σ k 0).1 (σ k 0).2 bz 0 es'.length:=by
     rcases hR.tm t with e|e
     ·rw[Gx]at e;cases e
     ·rw[e,Gx];rfl
    have hb:=hR.sat.c7 k 0 (.rw bz es') (by simp only[b7,hM]);obtain ⟨q,hq⟩:=FM.intro (r := .row (σ k 0).1 (σ k 0).2 bz 0 es'.length) (o':=e9.own) hL (BI.1 hp) ⟨n,c,e9,hr,by simp [na,D7,hv,HF,GM],rfl⟩;refine ⟨q,?_⟩;simp only[hq,LX,AE.get,hb];rw[if_pos (show (A4.c7 σ k (.rw bz es')).es.length=es'.length/\FB (A4.c7 σ k (.rw bz es')).es from ⟨rfl,n0⟩)];rfl
   ·exact hq.elim
  ·exact hq.elim
 ·exact hq.elim
theorem V0 {α:Type} {enc:α->List AV} {l:List α} {f z:Nat} {vs:List AV} {K:Nat->List (List AV)->Nat->Prop} (n:Nat) (h:N2 L f vs z (l.map enc)) (hn:n=l.length) (hk:K z (l.map enc) n):DE L f vs K:=⟨z,_,n,h,by simpa using hn,hk⟩
end Go.c8

namespace Go.c8
open F
attribute [local irreducible] AA AF AX AB CQ AY BB A9 BS BR CX D9 BT A1 BP CK AC A5 AL pw C7 CE DM DF DP DU DY BQ DE
variable {L:Lib}
set_option maxHeartbeats 1000000
def CM (a b:Int):Int:=if a<b then -1 else if b<a then 1 else 0
theorem GV {a b:Int} (h:a<b) : -1=CM a b:=by unfold CM;rw[if_pos h]
theorem L1 {a b:Int} (h:b<a):1=CM a b:=by unfold CM;rw[if_neg (by omega),if_pos h]
theorem OH {a b:Int} (h:a=b):0=CM a b:=by unfold CM;rw[if_neg (by omega),if_neg (by omega)]
theorem vC (N:a9 L) (a:Int):Ev L 58 [.int .i64 a] (.bool false):=by
 refine Ev.x N.I8 rfl rfl ?_;(repeat' ((first|(apply AH<;>intro hc<;>try omega)|apply AD)<;>conv=>whnf))
 exact E4 rfl
theorem vD (N:a9 L) (a:Int):Ev L 59 [.int .u32 a] (.bool false):=by
 refine Ev.x N.I9 rfl rfl ?_;(repeat' ((first|(apply AH<;>intro hc<;>try omega)|apply AD)<;>conv=>whnf))
 exact E4 rfl
theorem uN (N:a9 L) (a b:Int):Ev L 60 [.int .i64 a,.int .i64 b] (.int .i64 (CM a b)):=by
 refine Ev.x N.I6 rfl rfl ?_;(repeat' ((first|(apply AH<;>intro hc<;>try omega)|apply AD|refine AG (vC N _) ?_)<;>conv=>whnf))
 ·exact B9 (GV (by omega))
 ·exact B9 (L1 (by omega))
 ·exact B9 (OH (by omega))
theorem uO (N:a9 L) (a b:Int):Ev L 61 [.int .u32 a,.int .u32 b] (.int .i64 (CM a b)):=by
 refine Ev.x N.I7 rfl rfl ?_;(repeat' ((first|(apply AH<;>intro hc<;>try omega)|apply AD|refine AG (vD N _) ?_)<;>conv=>whnf))
 ·exact B9 (GV (by omega))
 ·exact B9 (L1 (by omega))
 ·exact B9 (OH (by omega))
theorem eA (N:a9 L) (l:List Nat) (q:Bool) (hl:l.length<=1099511627776):Ev L 62 [.sl q (l.map AJ)] (.sl false (l.map AJ)):=by
 cases l with
 | nil =>
  refine EU.nil N.GE (EU.x N.GE rfl rfl ?_) (EU.x N.GE rfl rfl ?_)
  ·(repeat' (apply AD<;>conv=>whnf))
   exact AU rfl (by simp [AZ,FB])
  ·(repeat' (apply AD<;>conv=>whnf))
   refine VY (enc:=AJ) (l:=[]) (l':=[]) rfl (λ_=>rfl) (by simp) (by simp) ?_;(conv=>whnf)
   (repeat' ((refine C8 (λ_=>rfl) rfl ?_ ?_;(first|rfl|simp))<;>conv=>whnf))
   exact AU rfl (by simp [AZ,FB])
 | cons d l =>
  refine EU.cons (EU.x N.GE rfl rfl ?_);(repeat' (apply AD<;>conv=>whnf))
  refine BA (by simp) ?_;(conv=>whnf)
  skip
  refine VY (enc:=AJ) (l:=[]) (l':=d::l) rfl (λ_=>rfl) (by simp at hl ⊢;omega) (by simp at hl ⊢;omega) ?_;(conv=>whnf)
  (repeat' ((refine C8 (λ_=>rfl) rfl ?_ ?_;(first|rfl|simp))<;>conv=>whnf))
  exact AU rfl (by simp only[AZ,true_and];exact CR (d::l))
theorem IY (N:a9 L) (l:List Nat) (q:Bool) (hD:AR l) (hl:l.length<=1099511627776):RC L 65 [.sl q (l.map AJ)] (.sl q ((dg (val l)).map AJ)):=by
 refine oN N.EO rfl rfl rfl rfl rfl ?_;(repeat' ((first|apply AQ|apply AD)<;>conv=>whnf))
 refine DL (λ n=>n) (λ(n:Nat)=>n<=l.length /\ ∀ i,n<=i->i<l.length->l[i]? = some 0) (λ n=>[(3,.int .i64 n)]) (λ_=>[]) l.length ⟨Nat.le_refl _,λ i h1 h2=>by omega⟩ ?_;intro n ⟨p1,p2⟩ ih;rcases n with _|n
 ·(repeat' ((first|(apply AH<;>intro hc<;>try omega)|apply AD)<;>conv=>whnf))
  refine N8 (k:=0) (λ_=>rfl) (by omega) ?_;(conv=>whnf)
  refine ⟨_,rfl,?_⟩;rw[FC hD p1 p2 (Or.inl rfl)];rfl
 ·have e1:((n+1:Nat):Int)-1=n:=by omega
  (repeat' ((first|(apply AH<;>intro hc<;>try omega)|(apply BN;omega)|(refine NA (by assumption) ?_ (λ e he hb => ?_);omega)|apply AD)<;>conv=>whnf))
  ·rw[e1]
   exact B2 [] (ih n (by omega) ⟨by omega,λ i h1 h2=>by
    by_cases h:i=n
    ·subst h
     rw[e1,Int.toNat_natCast]at he;rw[he];congr 1;omega
    ·exact p2 i (by omega) h2⟩)
  ·refine N8 (k:=n+1) (λ_=>rfl) (by omega) ?_
   (conv=>whnf)
   refine ⟨_,rfl,?_⟩;rw[e1,Int.toNat_natCast]at he;rw[FC hD p1 p2 (Or.inr ⟨e,he,by omega⟩)];rfl
theorem RT (N:a9 L) (l:List Nat) (q:Bool) (hD:AR l) (hl:l.length<=1099511627776):Ev L 66 [.sl q (l.map AJ)] (.sl false ((dg (val l)).map AJ)):=by
 have hc:=DR hD;refine Ev.x N.J4 rfl rfl ?_;(repeat' ((first|apply AD|refine IJ (IY N l _ hD hl) ?_|refine AG (eA N (dg (val l)) _ (by omega)) ?_)<;>conv=>whnf))
 exact AU rfl (by simp only[AZ,true_and];exact CR _)
theorem rE {a b:Nat} (h:((dg a).length:Int)≠(dg b).length):CM (dg a).length (dg b).length=CM a b:=by
 rcases Nat.lt_trichotomy (dg a).length (dg b).length with h1|h1|h1
 ·have:=QZ h1
  rw[<-GV (by omega),<-GV (by omega)]
 ·omega
 ·have:=QZ h1
  rw[<-L1 (by omega),<-L1 (by omega)]
theorem OR (N:a9 L) (a b:List Nat) (q1 q2:Bool) (hA:AR a) (hB:AR b) (la:a.length<=1099511627776) (lb:b.length<=1099511627776):Ev L 67 [.sl q1 (a.map AJ),.sl q2 (b.map AJ)] (.int .i64 (CM (val a) (val b))):=by
 have l1:=DR hA;have l2:=DR hB;have d1:=C3 (val a);have d2:=C3 (val b);refine Ev.x N.J0 rfl rfl ?_;(repeat' ((first|(apply AH<;>intro hc<;>try omega)|(apply BN;omega)|apply AQ|apply AD|refine IJ (IY N a _ hA la) ?_|refine IJ (IY N b _ hB lb) ?_|refine AG (uN N _ _) ?_)<;>conv=>whnf))
 ·exact B9 (rE (by omega))
 have hlen:(dg (val a)).length=(dg (val b)).length:=by omega
 have v1:=BF (val a);have v2:=BF (val b);generalize dg (val a)=X at *;generalize dg (val b)=Y at *;refine DL (λ n=>n) (λ(n:Nat)=>n<=X.length/\X.drop n=Y.drop n) (λ n=>[(7,.int .i64 ((n:Int)-1))]) (λ_=>[]) X.length ⟨Nat.le_refl _,by rw[List.drop_of_length_le (Nat.le_refl _),List.drop_of_length_le (by omega)]⟩ ?_;intro n ⟨p1,p2⟩ ih;rcases n with _|n
 ·(repeat' ((first|(apply AH<;>intro hc<;>try omega)|apply AD)<;>conv=>whnf))
  rw[List.drop_zero,List.drop_zero]at p2;exact B9 (OH (by rw[<-v1,<-v2,p2]))
 ·have e1:((n+1:Nat):Int)-1=n:=by omega
  rw[e1];(repeat' ((first|(apply AH<;>intro hc<;>try omega)|(apply BN;omega)|(refine BH (by assumption) ?_ rfl ?_;omega)|(refine TF (by assumption) ?_ (λ e he hb => ?_);omega)|apply AD|refine AG (uO N _ _) ?_)<;>conv=>whnf))
  ·rename_i x hx _
   rcases Nat.lt_trichotomy x e with h|h|h
   ·have:=VT d1 d2 hlen hx he p2 h
    refine B9 ?_;rw[<-GV (by omega),<-GV (by omega)]
   ·omega
   ·have:=VT d2 d1 hlen.symm he hx p2.symm h
    refine B9 ?_;rw[<-L1 (by omega),<-L1 (by omega)]
  ·rename_i x hx _
   refine BJ [] (by (conv=>whnf);exact ⟨rfl,rfl,rfl⟩) (ih n (by omega) ⟨by omega,?_⟩);obtain ⟨i1,e1⟩:=zS hx;obtain ⟨i2,e2⟩:=zS he;rw[List.drop_eq_getElem_cons i1,List.drop_eq_getElem_cons i2,p2,e1,e2];congr 1;omega
end Go.c8
