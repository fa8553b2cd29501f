/-
  The walk by computation is sound: calls, regions, code, loops, functions.
-/
import Derived.Test.YthgjfcjecnmflaaGreatB6
import Derived.Test.YthgjfcjecnmflaaGreatB2
set_option linter.unusedSimpArgs false
set_option linter.unusedVariables false
set_option linter.unnecessarySimpa false
namespace Go.e8
section
variable {σ:FC} {tm:Tm} {M:Mem} {st:St} {L:Lib} {c7:List Nat}
theorem vV {own:AH} {q:Bool} {d:Nat} : ∀ {e:List AV},E7 e=true->e.mapM (snap own q d)=some e
 | [],_=>rfl
 | v::r,h=>by
  have hv:snap own q d v=some v/\E7 r=true:=by
   cases v<;>simp only[E7]at h<;>first|cases h|exact ⟨by cases d<;>rfl,h⟩
  rw[List.mapM_cons,hv.1,vV hv.2];rfl
theorem vX {own:AH} {q:Bool} {d:Nat} : ∀ {e:List AV},LM e=true->e.mapM (snap own q d)=some (e.map nl)
 | [],_=>rfl
 | v::r,h=>by
  have hv:snap own q d v=some (nl v)/\LM r=true:=by
   cases v<;>simp only[LM]at h<;>first|cases h|exact ⟨by cases d<;>rfl,h⟩
  rw[List.mapM_cons,hv.1,vX hv.2];rfl
theorem vW {own:AH} {q:Bool} {d:Nat} : ∀ {es:List (List AV)},(∀ e∈es,LM e=true)->es.mapM (λ cs:List AV=>cs.mapM (snap own q d))=some (es.map λ e=>e.map nl)
 | [],_=>rfl
 | e::r,h=>by
  rw[List.mapM_cons,vX (h e List.mem_cons_self),vW λ x hx=>h x (List.mem_cons_of_mem _ hx)];rfl
theorem vU {own:AH} {q:Bool} {d:Nat} : ∀ {es:List (List AV)},(∀ e∈es,E7 e=true)->es.mapM (λ cs:List AV=>cs.mapM (snap own q d))=some es
 | [],_=>rfl
 | e::r,h=>by
  rw[List.mapM_cons,vV (h e List.mem_cons_self),vU λ x hx=>h x (List.mem_cons_of_mem _ hx)];rfl
theorem xV (hs:JP σ st.own M) {q:Bool} {v:AV} {K:AV->Prop} (h:P8 q M c7 v K) : ∃ v',(∀ d,snap (st.own.o3 c7) q (d+1) (A4 σ v)=some v')/\K v'/\v ≠ .any/\BJ σ v=A4 σ v:=by
 cases v with
 | row key t z off len =>
  have fin : ∀ (z':Nat) (es:List (List AV)),((st.own.o3 c7) (σ key t).1).e7 (σ key t).2=some ⟨z',es⟩->z=z'->A5 es off len (λ es=>K (.sl q es)) -> ∃ v',(∀ d,snap (st.own.o3 c7) q (d+1) (A4 σ (.row key t z off len))=some v')/\K v'/\AV.row key t z off len ≠ .any/\BJ σ (.row key t z off len)=A4 σ (.row key t z off len):=by
   intro z' es hb hz h;subst hz;obtain ⟨h1,h2,h3⟩:=h;refine ⟨_,λ d => ?_,h3,(by intro e;cases e),rfl⟩;simp only[A4,snap,EB,AH.get,hb];rw[if_pos ⟨h1,trivial⟩];simp only;rw[vW λ e he=>h2 e (List.mem_of_mem_drop (List.mem_of_mem_take he))];rfl
  simp only[P8]at h;split at h
  ·rename_i s z' es hm
   split at h
   ·cases hz:Nat.beq z z'<;>simp only[hz,cond_true,cond_false]at h
    cases hb:Q1 s c7<;>simp only[hb,cond_true,cond_false]at h;refine fin z' es ?_ (BI.1 hz) h;have ay:=hs.e7 _ _ _ (DD hm);rw[hs.site _ _ _ hm]at ay ⊢;rw[W7 hb];exact ay
   ·exact h.elim
  ·rename_i s rows hm
   split at h
   ·exact h.elim
   ·rename_i i
    split at h
    ·obtain ⟨z',es,g,h⟩:=h
     cases hz:Nat.beq z z'<;>simp only[hz,cond_true,cond_false]at h;exact fin z' es (hs.e7 key (i+1) (.rw z' es) (by simp [c4,hm,g])) (BI.1 hz) h
    ·rename_i b r
     cases hb:U4 (b::r)<;>simp only[hb,cond_true,cond_false]at h;obtain ⟨z',es,g,h⟩:=h;cases hz:Nat.beq z z'<;>simp only[hz,cond_true,cond_false]at h;have g':c4 M key (i+1)=some (.rw z' es):=by simp [c4,hm,g]
     refine fin z' es ?_ (BI.1 hz) h;rw[kF (hs.low _ _ _ g' rfl) hb];exact hs.e7 key (i+1) (.rw z' es) g'
  ·exact h.elim
 | int k n=>exact ⟨_,λ d=>rfl,h,(by intro e;cases e),rfl⟩
 | bool b=>exact ⟨_,λ d=>rfl,h,(by intro e;cases e),rfl⟩
 | sl l es=>exact ⟨_,λ d=>rfl,h,(by intro e;cases e),rfl⟩
 | da c=>exact ⟨_,λ d=>rfl,h,(by intro e;cases e),rfl⟩
 | nil=>exact ⟨_,λ d=>rfl,h,(by intro e;cases e),rfl⟩
 | _=>exact (h:False).elim
theorem xU (hs:JP σ st.own M) {q:Bool} : ∀ {l:List AV} {K:List AV->Prop},dG q M c7 l K -> ∃ l',(∀ d,(l.map (A4 σ)).mapM (snap (st.own.o3 c7) q (d+1))=some l')/\K l'
 | [],K,h=>⟨[],λ d=>rfl,h⟩
 | v::r,K,h=>by
  obtain ⟨v',h1,h2,_⟩:=xV hs (show P8 q M c7 v λ v'=>dG q M c7 r λ r'=>K (v'::r') from h);obtain ⟨l',h3,h4⟩:=xU hs h2;refine ⟨v'::l',λ d => ?_,h4⟩;rw[List.map_cons,List.mapM_cons,h1 d,h3 d];rfl
theorem xT (hs:JP σ st.own M) {q:Bool} : ∀ {l:List (List AV)} {K:List (List AV)->Prop},lJ q M c7 l K -> ∃ l',(∀ d,(l.map λ cs=>cs.map (A4 σ)).mapM (λ cs:List AV=>cs.mapM (snap (st.own.o3 c7) q (d+1)))=some l')/\K l'
 | [],K,h=>⟨[],λ d=>rfl,h⟩
 | v::r,K,h=>by
  obtain ⟨v',h1,h2⟩:=xU hs (show dG q M c7 v λ v'=>lJ q M c7 r λ r'=>K (v'::r') from h);obtain ⟨l',h3,h4⟩:=xT hs h2;refine ⟨v'::l',λ d => ?_,h4⟩;rw[List.map_cons,List.mapM_cons,h1 d,h3 d];rfl
theorem kT {own:AH} {q:Bool} {d:Nat} {k:Nat} : ∀ {rows:List (Option (Nat × List (List AV)))} {i:Nat},(∀ j z es,rows[j]? = some (some (z,es))->(own (σ k (i+j+1)).1).e7 (σ k (i+j+1)).2=some ⟨z,es⟩ /\ ∀ e∈es,E7 e=true) ->
  (BU σ k i rows).mapM (λ cs:List AV=>cs.mapM (snap own q (d+1)))=some (Q5 q rows)
 | [],i,h=>rfl
 | none::r,i,h=>by
  rw[BU,List.mapM_cons,kT (i:=i+1) λ j z es hj=>by
   have:=h (j+1) z es (by simpa using hj)
   rwa [show i+(j+1)+1=i+1+j+1 by omega]at this]
  rfl
 | some (z,es)::r,i,h=>by
  rw[BU,List.mapM_cons,kT (i:=i+1) λ j z es hj=>by
   have:=h (j+1) z es (by simpa using hj)
   rwa [show i+(j+1)+1=i+1+j+1 by omega]at this]
  obtain ⟨h1,h2⟩:=h 0 z es rfl;have:snap own q (d+1) (.row (σ k (i+1)).1 (σ k (i+1)).2 z 0 es.length)=some (.sl q es):=by
   simp only[snap,EB,AH.get];rw[show (own (σ k (i+1)).1).e7 (σ k (i+1)).2=some ⟨z,es⟩ from h1];simp only[Nat.zero_add,Nat.le_refl,and_self,if_true,List.drop_zero];rw[zT (Nat.le_refl _),vU h2];rfl
  rw[List.mapM_cons,this];rfl
theorem xS (hs:JP σ st.own M) {q:Bool} {v:AV} {K:AV->Prop} (h:VK q M c7 v K) : ∃ v',snap (st.own.o3 c7) q 6 (A4 σ v)=some v'/\K v'/\v ≠ .any/\BJ σ v=A4 σ v/\CN (st.own.o3 c7) q (A4 σ v)=some v':=by
 have tc:P8 q M c7 v K -> ∃ v',snap (st.own.o3 c7) q 6 (A4 σ v)=some v'/\K v'/\v ≠ .any/\BJ σ v=A4 σ v/\CN (st.own.o3 c7) q (A4 σ v)=some v':=by
  intro h;obtain ⟨v',h1,h2,h3,h4⟩:=xV hs h;refine ⟨v',h1 5,h2,h3,h4,?_⟩;have:=h1 5
  cases v<;>first|exact this|exact (h:False).elim
 unfold VK at h;split at h
 ·rename_i key z off len
  split at h
  ·rename_i s z' es hm
   cases hz:Nat.beq z z'<;>simp only[hz,cond_true,cond_false]at h;cases hb:Q1 s c7<;>simp only[hb,cond_true,cond_false]at h;cases ho:Nat.beq off 0<;>simp only[ho,cond_true,cond_false]at h;obtain rfl:=BI.1 hz;obtain rfl:=BI.1 ho;obtain ⟨rfl,h⟩:=h;obtain ⟨l',h1,h2⟩:=xT hs h;have ay:=hs.e7 _ _ _ (DD hm);rw[hs.site _ _ _ hm]at ay;have key:snap (st.own.o3 c7) q 6 (A4 σ (.row key 0 z 0 es.length))=some (.sl q l'):=by
    simp only[A4,snap,EB,AH.get,hs.site _ _ _ hm];rw[W7 hb,ay];simp only[A3.e7,Nat.zero_add,List.length_map,Nat.le_refl,and_self,if_true,List.drop_zero];rw[zT (by simp),h1 4];rfl
   exact ⟨_,key,h2,(by intro e;cases e),rfl,key⟩
  ·rename_i s rows hm
   split at h
   ·cases hz:Nat.beq z 1<;>simp only[hz,cond_true,cond_false]at h
    obtain rfl:=BI.1 hz;obtain ⟨rfl,rfl,h1,h2⟩:=h;have ay:=hs.e7 _ _ _ (DD hm);have key:snap (st.own.o3 []) q 6 (A4 σ (.row key 0 1 0 rows.length))=some (.sl q (Q5 q rows)):=by
     simp only[A4,snap,EB,AH.get,AH.o3];rw[ay];simp only[A3.e7,Nat.zero_add,EU,Nat.le_refl,and_self,if_true,List.drop_zero];rw[zT (by rw[EU];exact Nat.le_refl _),kT (i:=0) λ j z es hj=>⟨by
      have:=hs.e7 key (j+1) (.rw z es) (by simp [c4,hm,hj])
      simpa [A3.e7] using this,h1 z es (zM hj)⟩]
     rfl
    exact ⟨_,key,h2,(by intro e;cases e),rfl,key⟩
   ·exact h.elim
  ·exact tc h
 ·exact tc h
theorem xW (hs:JP σ st.own M) {q:Bool} : ∀ {l:List AV} {K:List AV->Prop},lK q M c7 l K -> ∃ l',(l.map (A4 σ)).mapM (snap (st.own.o3 c7) q 6)=some l'/\K l'
 | [],K,h=>⟨[],rfl,h⟩
 | v::r,K,h=>by
  obtain ⟨v',h1,h2,_⟩:=xS hs (show VK q M c7 v λ v'=>lK q M c7 r λ r'=>K (v'::r') from h);obtain ⟨l',h3,h4⟩:=xW hs h2;refine ⟨v'::l',?_,h4⟩;rw[List.map_cons,List.mapM_cons,h1,h3];rfl
theorem dF (hs:JP σ st.own M) {q:Bool} {v:AV} {K:AV->Prop} (h:O4 q M c7 v K) : ∃ v',CN (st.own.o3 c7) q (BC σ v)=some v'/\K v'/\v ≠ .any/\BC σ v=BJ σ v:=by
 cases v with
 | agg cs =>
  simp only[O4]at h;obtain ⟨l',h1,h2⟩:=xW hs h;refine ⟨.agg l',?_,h2,(by intro e;cases e),rfl⟩;simp only[H2,CN,h1,Option.map_some]
 | l6 vs=>exact (h:False).elim
 | fn p f g cs=>exact (h:False).elim
 | any=>exact (h:False).elim
 | _ =>
  simp only[O4]at h;obtain ⟨v',h1,h2,h3,h4,h5⟩:=xS hs h;exact ⟨v',h5,h2,h3,rfl⟩
theorem dI (hr:RX σ tm M st) : ∀ {xs:List AR} {K:List AV->Prop},ZK tm M c7 xs K -> ∃ vs,(xs.map st.ev).mapM (CN (st.own.o3 c7) true)=some vs/\K vs
 | [],K,h=>⟨[],rfl,h⟩
 | x::r,K,h=>by
  obtain ⟨v',h1,h2,h3,_⟩:=dF hr.sat (show O4 true M c7 (ex tm x) λ v=>ZK tm M c7 r λ vs=>K (v::vs) from h);obtain ⟨l',h4,h5⟩:=dI hr h2;refine ⟨v'::l',?_,h5⟩;rw[List.map_cons,List.mapM_cons,hr.ev rfl h3,h1,h4];rfl
theorem Ah8 (hs:JP σ st.own M) {v:AV} {K:AV->Prop} (h:dH M c7 v K) : ∃ v',O5 (st.own.o3 c7) true (BC σ v)=some v'/\K v'/\v ≠ .any/\BC σ v=BJ σ v:=by
 cases v with
 | nil=>exact ⟨.nil,rfl,h,(by intro e;cases e),rfl⟩
 | _ =>
  simp only[dH]at h;obtain ⟨v',h1,h2,h3,h4⟩:=dF hs h;exact ⟨v',h1,h2,h3,h4⟩
theorem xX (hr:RX σ tm M st) : ∀ {xs:List AR} {K:List AV->Prop},lL tm M c7 xs K -> ∃ vs,(xs.map st.ev).mapM (O5 (st.own.o3 c7) true)=some vs/\K vs
 | [],K,h=>⟨[],rfl,h⟩
 | x::r,K,h=>by
  obtain ⟨v',h1,h2,h3,_⟩:=Ah8 hr.sat (show dH M c7 (ex tm x) λ v=>lL tm M c7 r λ vs=>K (v::vs) from h);obtain ⟨l',h4,h5⟩:=xX hr h2;refine ⟨v'::l',?_,h5⟩;rw[List.map_cons,List.mapM_cons,hr.ev rfl h3,h1,h4];rfl
theorem YN (hr:RX σ tm M st) : ∀ {xs:List AR} {K:List AV->Prop},WM tm xs K -> ∃ vs,xs.map st.ev=vs.map (BC σ)/\K vs
 | [],K,h=>⟨[],rfl,h⟩
 | x::r,K,h=>by
  obtain ⟨h1,h2⟩:=bI (show fV (ex tm x) λ v=>WM tm r λ vs=>K (v::vs) from h);obtain ⟨vs,h3,h4⟩:=YN hr h2;exact ⟨ex tm x::vs,by rw[List.map_cons,List.map_cons,hr.ev rfl h1,h3],h4⟩
theorem oX {v:AV} (h:A1 v):A4 σ v=v:=by
 cases v<;>first|rfl|(simp only[A1]at h)
theorem oV : ∀ {l:List AV},CD l->l.map (A4 σ)=l
 | [],_=>rfl
 | v::r,h=>by
  simp only[CD]at h;rw[List.map_cons,oX h.1,oV h.2]
theorem oY {v:AV} (h:A1 v):BJ σ v=v:=by
 cases v with
 | agg cs=>simp only[A1]at h;simp only[BJ,oV h]
 | fn p f g cs=>simp only[A1]at h
 | _=>exact oX (σ:=σ) h
theorem oW : ∀ {l:List AV},CD l->l.map (BJ σ)=l
 | [],_=>rfl
 | v::r,h=>by
  simp only[CD]at h;rw[List.map_cons,oY h.1,oW h.2]
theorem fO {v:AV} (h:A1 v):BC σ v=v:=by
 cases v with
 | l6 cs=>simp only[A1]at h;simp only[BC,oW h]
 | _=>exact oY (σ:=σ) h
theorem wR {I:List AV->Option (AV × AH)} {vs:List AV} {r:AV} (h:HU I vs=some r):A1 r:=by
 unfold HU at h;split at h
 ·split at h
  ·split at h
   ·obtain rfl:=Option.some.inj h
    assumption
   ·cases h
  ·cases h
 ·cases h
theorem Ev.clean {f:Nat} {vs:List AV} {r:AV} (h:Ev L f vs r):A1 r:=by
 obtain ⟨n,h⟩:=h;unfold GG J3 at h;split at h
 ·split at h
  ·rename_i r1 r2 h1 h2
   split at h
   ·obtain rfl:=Option.some.inj h
    exact wR h1
   ·cases h
  ·cases h
 ·exact wR h
theorem RX.put (h:RX σ tm M st) (d:Nat) {v v':AV} (e:v'=BC σ v):RX σ ((d,v)::tm) M ⟨jm st.tm d v',st.own⟩:=by
 refine ⟨λ j => ?_,h.sat⟩;simp only[tg,ZS];cases hb:Nat.beq j d
 ·rw[if_neg (E5.1 hb)];exact h.tm j
 ·rw[if_pos (BI.1 hb)];exact Or.inr e
theorem vY : ∀ {cs:List AV},Y3 cs=true->cs.map (BC σ)=cs.map (A4 σ)
 | [],_=>rfl
 | v::r,h=>by
  simp only[Y3]at h;cases hv:kH v<;>simp only[hv,cond_true,cond_false]at h
  ·cases h
  ·rw[List.map_cons,List.map_cons,vY h]
   cases v<;>first|rfl|(simp [kH]at hv)
theorem Zu {v:AV} (h:FR v=true):A4 σ v=v:=by cases v<;>first|rfl|(simp [FR]at h)
theorem qN : ∀ {cs:List AV},cs.all FR=true->cs.map (A4 σ)=cs
 | [],_=>rfl
 | c::r,h=>by
  simp only[List.all_cons,Bool.and_eq_true]at h;rw[List.map_cons,Zu h.1,qN h.2]
theorem qO : ∀ {vs:List AV},vs.all dq=true->vs.map (BC σ)=vs
 | [],_=>rfl
 | v::r,h=>by
  simp only[List.all_cons,Bool.and_eq_true]at h;rw[List.map_cons,qO h.2];congr 1;cases v with
  | agg cs=>simp only[BC,BJ,qN (show cs.all FR=true from h.1)]
  | _=>first|rfl|(simp [dq,FR]at h)
theorem Af7 {r:AV} (hc:A1 r) (hf:JM r):BC σ (yi r)=yi r:=by
 cases r with
 | agg cs =>
  simp only[yi,BC,BJ];congr 1;rw[List.map_map];refine List.map_congr_left λ c nc => ?_
  have:=hf c nc
  cases c<;>first|rfl|exact this.elim
 | _=>first|rfl|exact hf.elim
theorem Af4 {c:AV} (h:A1 c):A4 σ (GV c)=GV c:=by
 cases c<;>first|(simp only[GV,A4];done)|(simp only[A1]at h;done)
theorem Af5 {r:AV} (h:A1 r) (hd:VV r):BC σ (OR r)=OR r:=by
 cases r with
 | agg cs =>
  simp only[A1]at h;have : ∀ cs:List AV,CD cs->(K1 cs).map (A4 σ)=K1 cs:=by
   intro cs;induction cs with
   | nil=>intro _;simp [K1]
   | cons c l ih =>
    intro h;simp only[CD]at h;rw[K1,List.map_cons,ih h.2,Af4 h.1]
  simp only[OR,BC,BJ,this cs h]
 | l6=>exact hd.elim
 | fn=>exact hd.elim
 | _=>first|(simp only[OR,GV,BC,BJ,A4];done)|(simp only[A1]at h;done)
theorem Af6 {r:AV} (h:A1 r) (hd:JM r\/VV r):BC σ (K2 r)=K2 r:=by
 by_cases hf:JM r
 ·rw[jM hf];exact Af7 h hf
 ·rw[uW hf];exact Af5 h (hd.resolve_left hf)
theorem tZ : ∀ {l:List AV},bQ l=true->l.map (BC σ)=l
 | [],_=>rfl
 | .int _ _::r,h=>by
  rw[List.map_cons,tZ (l:=r) h];rfl
theorem Uw {K:AV->Mem->Prop} (hr:RX σ tm M st) {op:DG} (h:XE L tm M c7 K op):BP L tm c7 K op st\/(∃ f xs,op = .call f xs)\/(∃ f xs,op = .e9 f xs)\/(∃ x xs,op = .n8 x xs)\/(∃ f xs,op = .o0 f xs)\/(∃ s f xs,op = .u9 s f xs) \/ ∃ s f xs,op = .cq s f xs:=by
 cases op with
 | call f xs=>exact Or.inr (Or.inl ⟨_,_,rfl⟩)
 | e9 f xs=>exact Or.inr (Or.inr (Or.inl ⟨_,_,rfl⟩))
 | n8 x xs=>exact Or.inr (Or.inr (Or.inr (Or.inl ⟨_,_,rfl⟩)))
 | o0 f xs=>exact Or.inr (Or.inr (Or.inr (Or.inr (Or.inl ⟨_,_,rfl⟩))))
 | u9 s f xs=>exact Or.inr (Or.inr (Or.inr (Or.inr (Or.inr (Or.inl ⟨_,_,_,rfl⟩)))))
 | cq s f xs=>exact Or.inr (Or.inr (Or.inr (Or.inr (Or.inr (Or.inr ⟨_,_,_,rfl⟩)))))
 | nv s n x v=>exact Or.inl (Tf hr h)
 | ry ne x=>exact Or.inl (Uy hr h)
 | bad=>exact (show False from h).elim
 | gn tb x=>exact Or.inl (Td hr h)
 | qa p f xs=>exact Or.inl (Vc hr h)
 | a9 x=>exact Or.inl (Tb hr h)
 | w9 s z=>exact Or.inl (Ti hr h)
 | pick c a b=>exact Or.inl (Tc hr h)
 | bin o x y=>exact Or.inl (Uo hr h)
 | beq ne x y=>exact Or.inl (Un hr h)
 | un o x=>exact Or.inl (Tg hr h)
 | conv k x=>exact Or.inl (Us hr h)
 | box s x=>exact Or.inl (Up hr h)
 | alloc s z=>exact Or.inl (Uj hr h)
 | build z ps=>exact Or.inl (Ur hr h)
 | c9 s z ps=>exact Or.inl (Uq hr h)
 | a6 x o=>exact Or.inl (Uu hr h)
 | ox x o n a=>exact Or.inl (Uv hr h)
 | a5 a z x i=>exact Or.inl (Ux hr h)
 | ld a n x=>exact Or.inl (Uz hr h)
 | st n x v=>exact Or.inl (nL hr h)
 | mk s z b ze l c=>exact Or.inl (Vb hr h)
 | gp z x lo hi=>exact Or.inl (Te hr h)
 | ext x i=>exact Or.inl (Ut hr h)
 | len x=>exact Or.inl (Va hr h)
 | mm m xs=>exact Or.inl (Vd hr h)
 | app s z b x y=>exact Or.inl (Uk hr h)
theorem eG {K:AV->Mem->Prop} (hr:RX σ tm M st) {op:DG} {d:Option Nat} {g:Option (Nat × Bool)} {l:List AI} {k:List It} {Q:St->Prop} (h:XE L tm M c7 K op) (hg:E6 st g=some true)
  (hk : ∀ σ' v v' M' n9,K v M'->v'=BC σ' v->RX σ' tm M' ⟨st.tm,n9⟩->AO L l k ⟨((⟨st.tm,n9⟩:St).dst d v').tm,n9⟩ Q):AO L (⟨d,op,g,c7⟩::l) k st Q:=by
 rcases Uw hr h with ⟨E,σ',v,M',h1,h2,h3,h4⟩|⟨f,xs,rfl⟩|⟨f,xs,rfl⟩|⟨x,xs,rfl⟩|⟨f,xs,rfl⟩|⟨s,f,xs,rfl⟩|⟨s,f,xs,rfl⟩
 ·rw[Qz hg h1,eR]
  have:=hk σ' v _ M' _ h2 h3 h4
  cases d<;>exact this
 ·simp only[XE]at h
  obtain ⟨vs,h1,r,h2,h3⟩:=dI hr h;rw[So hg h1 h2];have:=hk σ r r M st.own h3 (fO h2.clean).symm hr
  cases d<;>exact this
 ·simp only[XE]at h
  obtain ⟨vs,h1,h2⟩:=YN hr h;obtain ⟨r,n9,σ',M',h3,h4,h5,h6⟩:=h2 σ st.own hr.sat;rw[<-h1]at h3;rw[Qr hg h3];have:=hk σ' r _ M' n9 h6 rfl ⟨λ j=>by rw[h5 j];exact hr.tm j,h4⟩
  cases d<;>exact this
 ·simp only[XE]at h
  split at h
  ·rename_i f g' e1
   obtain ⟨h0,h⟩:=h;obtain ⟨vs,h1,r,h2,h3⟩:=dI hr h;have e2:=hr.ev e1 (by intro e;cases e);rw[dB,List.map_nil,h0]at e2;rw[Qs hg e2 h1 h2];have:=hk σ r r M st.own h3 (fO h2.clean).symm hr
   cases d<;>exact this
  ·rename_i f g' c cs e1
   obtain ⟨h0,h⟩:=h;obtain ⟨v',h1,h,_,_⟩:=dF hr.sat h;obtain ⟨vs,h2,r,h3,h4⟩:=dI hr h;have e2:=hr.ev e1 (by intro e;cases e);rw[dB,h0]at e2;have h5:(AV.agg (c::cs |>.map (A4 σ))::xs.map st.ev).mapM (CN st.own true)=some (v'::vs):=by
    rw[List.mapM_cons,show CN st.own true (AV.agg (c::cs |>.map (A4 σ)))=some v' from h1,show (xs.map st.ev).mapM (CN st.own true)=some vs from h2];rfl
   rw[Qq hg e2 h5 h3];have:=hk σ r r M st.own h4 (fO h3.clean).symm hr
   cases d<;>exact this
  ·rename_i f g' cs e1
   cases ho:Y3 cs<;>simp only[ho,cond_true,cond_false]at h;obtain ⟨h0,h⟩:=h;obtain ⟨vs,h1,h2⟩:=YN hr h;rw[GT]at h2;obtain ⟨r,n9,σ',M',h3,h4,h5,h6⟩:=h2 σ st.own hr.sat;rw[List.map_append,<-h1,vY (σ:=σ) ho]at h3;have e2:=hr.ev e1 (by intro e;cases e);rw[dB,h0]at e2;rw[Qv hg e2 h3];have:=hk σ' r _ M' n9 h6 rfl ⟨λ j=>by rw[h5 j];exact hr.tm j,h4⟩
   cases d<;>exact this
  ·exact h.elim
 ·simp only[XE]at h
  obtain ⟨vs,h1,h2⟩:=YN hr h;cases ho:vs.all dq<;>simp only[ho,cond_true,cond_false]at h2;obtain ⟨r,h3,h4,h5⟩:=h2;have e1:xs.map st.ev=vs:=by rw[h1];exact qO ho
  rw[Qt hg (by rw[e1];exact ho) (by rw[e1];exact h3) h4];have:=hk σ (K2 r) (K2 r) M st.own h5 (Af6 h3.clean h4).symm hr
  cases d<;>exact this
 ·simp only[XE]at h
  cases Et:ES s<;>simp only[Et,cond_true,cond_false]at h;obtain ⟨vs,h1,z,es,n,h2,rfl,h3⟩:=xX hr h;obtain ⟨k',g1,g2,g3⟩:=G5 h3;refine Qu hg h1 h2 ?_;rw[eR];have:=hk (CJ σ k' λ_=>(s,st.own.g8 s)) _ (.row s (st.own.g8 s) z 0 es.length) _ _ g3 (by simp only[CZ,BK]) (hr.gk (q:=s) g1 g2 (.rw z es) trivial rfl (λ_=>Et))
  cases d<;>exact this
 ·simp only[XE]at h
  obtain ⟨vs,h1,h2⟩:=YN hr h;split at h2
  ·rename_i key rest
   cases hi:bQ rest<;>simp only[hi,cond_true,cond_false]at h2;obtain ⟨cells,gb,kd,n,g1,g2,g3,g4,g5⟩:=h2;have ft:=hr.sat.site _ _ _ g1;have ay:=hr.sat.e7 _ _ _ (DD g1);rw[ft]at ay;simp only[A3.e7,IB g2]at ay;have cp:xs.map st.ev = .ptr s (σ key 0).2 0 0::rest:=by
    rw[h1,List.map_cons,D5,ft,tZ hi]
   have hE:=g4 (σ key 0).2 (st.own s) ay;refine Qw hg (by rw[cp];exact hE) ?_;rw[eR];have:=hk σ (.int kd n) (.int kd n) _ _ g5 rfl (hr.Mi g1 trivial (.bx gb) trivial (λ h=>by cases h))
   simp only[A3.e7,IB g3]at this;cases d<;>exact this
  ·exact h2.elim
theorem AeW (hr:RX σ tm M st) {g:Nat} {w:Bool} {b:Bool} (e:tg tm g = .bool b):E6 st (some (g,w))=some (b == w):=by
 rcases hr.tm g with h|h
 ·rw[e]at h;cases h
 ·rw[e]at h
  simp only[E6,h,GL]
theorem AeX (hr:RX σ tm M st) {g:Nat} {w:Bool} (e:tg tm g = .l6 []):E6 st (some (g,w))=some false:=by
 rcases hr.tm g with h|h
 ·rw[e]at h;cases h
 ·rw[e]at h
  simp only[E6,h,H3,List.map_nil]
theorem mA {key:Nat} : ∀ (tm:Tm) (j:Nat),tg (Db key tm) j = .any\/tg (Db key tm) j=tg tm j
 | [],_=>Or.inl rfl
 | (i,v)::r,j=>by
  simp only[Db];cases hc:QH key v<;>cases hb:Nat.beq j i;all_goals simp only[cond_true,cond_false,tg,hb]
  ·exact mA r j
  ·exact Or.inr trivial
  ·exact mA r j
  ·exact Or.inl trivial
theorem AiM {v:AV} {K:Tm->Prop} (h:xk v tm K) : ∃ bn,(∀ j,tg bn j = .any\/tg bn j=tg tm j)/\K bn:=by
 unfold xk at h;split at h
 ·rw[WO]at h
  exact ⟨_,λ j=>mA _ j,h⟩
 ·exact ⟨_,λ j=>Or.inr rfl,h⟩
theorem nM {k:List It} {Q:Tm->Mem->Prop} : ∀ {l:List AI} {K:Tm->Mem->Prop} {tm:Tm} {M:Mem},XO L l K tm M->(∀ bn M',K bn M'->AA L k bn M' Q)->mS L l k tm M Q
 | [],K,tm,M,h,hk=>λ σ st hr=>Qx.2 (hk tm M h σ st hr)
 | o::l,K,tm,M,h,hk=>by
  intro σ st hr;have h:XI L o (XO L l) K tm M:=h;have ih : ∀ bn M',XO L l K bn M'->mS L l k bn M' Q:=λ bn M' h'=>nM h' hk
  have some_ : ∀ (d:Nat) (op:DG) (g:Option (Nat × Bool)) (c7:List Nat),E6 st g=some true->XE L tm M c7 (λ v M=>XO L l K ((d,v)::tm) M) op->AO L (⟨some d,op,g,c7⟩::l) k st (SQ Q):=by
   intro d op g c7 hg hx;refine eG hr hx hg ?_;intro σ' v v' M' n9 h1 h2 h3;exact ih _ _ h1 σ' _ (h3.put d h2)
  have Bu : ∀ (d:Nat) (u:AV) (op:DG) (c7:List Nat),XE L tm M c7 (λ v M=>xk u tm λ tm=>XO L l K ((d,v)::tm) M) op->AO L (⟨some d,op,none,c7⟩::l) k st (SQ Q):=by
   intro d u op c7 hx;refine eG hr hx rfl ?_;intro σ' v v' M' n9 h1 h2 h3;obtain ⟨bn,g1,g2⟩:=AiM h1;exact ih _ _ g2 σ' _ ((show RX σ' bn M' ⟨st.tm,n9⟩ from ⟨λ j=>(g1 j).elim Or.inl λ e=>by rw[e];exact h3.tm j,h3.sat⟩).put d h2)
  have none_ : ∀ (op:DG) (g:Option (Nat × Bool)) (c7:List Nat),E6 st g=some true->XE L tm M c7 (λ_ M=>XO L l K tm M) op->AO L (⟨none,op,g,c7⟩::l) k st (SQ Q):=by
   intro op g c7 hg hx;refine eG hr hx hg ?_;intro σ' v v' M' n9 h1 h2 h3;exact ih _ _ h1 σ' _ h3
  have Ac : ∀ (d:Option Nat) (op:DG) (g:Option (Nat × Bool)) (c7:List Nat),E6 st g=some false->(match d with|some d=>XO L l K ((d,.l6 [])::tm) M|none=>XO L l K tm M)->AO L (⟨d,op,g,c7⟩::l) k st (SQ Q):=by
   intro d op g c7 hg hx;rw[Qy hg];cases d with
   | none=>exact ih _ _ hx σ _ hr
   | some d=>exact ih _ _ hx σ _ (hr.put d rfl)
  obtain ⟨d,op,g,c7⟩:=o;cases g with
  | none =>
   cases d with
   | none=>exact none_ op none c7 rfl h
   | some d =>
    cases op with
    | app s z b x y=>exact Bu d (ex tm x) (.app s z b x y) c7 h
    | _=>exact some_ d _ none c7 rfl h
  | some gw =>
   obtain ⟨g,w⟩:=gw;have h:(match tg tm g with
    | .bool b=>fB (b == w) λ c=>match c,d with
     | true,some d=>XE L tm M c7 (λ v M=>XO L l K ((d,v)::tm) M) op
     | true,none=>XE L tm M c7 (λ_ M=>XO L l K tm M) op
     | false,some d=>XO L l K ((d,.l6 [])::tm) M
     | false,none=>XO L l K tm M
    | .l6 []=>match d with
     | some d=>XO L l K ((d,.l6 [])::tm) M
     | none=>XO L l K tm M
    | _=>False):=by cases d<;>cases op<;>exact h
   split at h
   ·rename_i b e
    rw[QN]at h;have hg:=AeW hr (w:=w) e;cases hb:(b == w)<;>rw[hb]at h hg
    ·exact Ac d op _ c7 hg (by cases d<;>exact h)
    ·cases d with
     | none=>exact none_ op _ c7 hg h
     | some d=>exact some_ d op _ c7 hg h
   ·rename_i e
    exact Ac d op _ c7 (AeX hr e) (by cases d<;>exact h)
   ·exact h.elim
theorem eH {Q:Tm->Mem->Prop} : ∀ {n:Nat} {k:List It} {tm:Tm} {M:Mem},XK L Q n k tm M->AA L k tm M Q
 | 0,k,tm,M,h=>h
 | n+1,[],tm,M,h=>λ σ st hr=>Sh.2 ⟨σ,tm,M,hr,h⟩
 | n+1,it::k,tm,M,h=>by
  have h:XS L Q (XK L Q n) (it::k) tm M:=h;have ih : ∀ k tm M,XK L Q n k tm M->AA L k tm M Q:=λ k tm M h=>eH h
  intro σ st hr;cases it with
  | e7 id=>exact Rz.2 (ih _ _ _ h σ st hr)
  | kf ts ss =>
   simp only[XS,AeQ,WO]at h;cases ss with
   | cons s r=>exact h.elim
   | nil =>
    refine Sd.2 (ih _ _ _ h σ _ ⟨λ j => ?_,hr.sat⟩);rw[ZP,XH,nY,fA,Bool.false_or];cases hc:ts.contains j
    ·simp only[Bool.false_eq_true,if_false,cond_false]
     exact hr.tm j
    ·exact Or.inl rfl
  | lp c=>exact h σ st hr
  | code c =>
   cases c with
   | skip=>exact Sn.2 (ih _ _ _ h σ st hr)
   | ops l d=>exact Si.2 (nM h (λ bn M' h'=>ih _ _ _ h') σ st hr)
   | dr c ts ss=>exact Sc.2 (ih _ _ _ h σ st hr)
   | scope c=>exact Sk.2 (ih _ _ _ h σ st hr)
   | seq a b=>exact Sl.2 (ih _ _ _ h σ st hr)
   | cond x a b =>
    simp only[XS]at h;split at h
    ·rename_i b' e
     rw[QN]at h;rw[Sb (hr.ev e (by intro e;cases e))];cases b'
     ·simpa using ih _ _ _ h σ st hr
     ·simpa using ih _ _ _ h σ st hr
    ·exact h.elim
   | block id c=>exact Sa.2 (ih _ _ _ h σ st hr)
   | loop c=>exact Sf.2 (mR.1 (h σ st hr))
   | exit id =>
    simp only[XS]at h;split at h
    ·rename_i k' e
     exact (Se e).2 (ih _ _ _ h σ st hr)
    ·exact h.elim
   | ret=>exact Sj.2 ⟨σ,tm,M,hr,h⟩
theorem Ahs (hr:RX σ tm M st) {r:IO} {K:AV->Prop} (h:VC tm M r K) : ∃ v,EV st r=some (BC σ v)/\K v/\BC σ v=BJ σ v:=by
 cases r with
 | tmp t =>
  simp only[VC]at h;obtain ⟨h1,h2,h3⟩:=sP (σ:=σ) h;refine ⟨_,?_,h3,h2⟩;rcases hr.tm t with e|e
  ·exact absurd e h1
  ·simp only[EV,e]
   cases hv:tg tm t<;>rw[hv]at h h1<;>first|rfl|exact (h:False).elim
 | cell t agg n =>
  simp only[VC]at h;split at h
  ·rename_i key i j e
   split at h
   ·rename_i s cs hm
    cases hi:Nat.beq i 0<;>simp only[hi,cond_true,cond_false]at h;obtain rfl:=BI.1 hi;split at h
    ·rename_i ds hp
     rw[GT]at h;rcases hr.tm t with e'|e'
     ·rw[e]at e';cases e'
     ·have hs:=hr.sat.site _ _ _ hm
      have ay:=hr.sat.e7 _ _ _ (DD hm);rw[hs]at ay;have flat : ∀ v,J2 agg (ds.map (A4 σ))=some (BC σ v)->EV st (.cell t agg n)=some (BC σ v):=by
       intro v hv;simp only[EV,e',e,D5,AH.px,AH.get,hs,ay,A3.e7,List.getElem?_cons_zero,cO hp,hv]
      cases agg
      ·simp only[qy]at h
       split at h
       ·rename_i c
        obtain ⟨_,h1,h2⟩:=sQ (σ:=σ) h;refine ⟨c,flat c (by rw[h1];rfl),h2,?_⟩;rw[h1];cases c<;>first|rfl|exact (h:False).elim
       ·exact h.elim
      ·exact ⟨.agg ds,flat _ rfl,h,rfl⟩
    ·exact h.elim
   ·exact h.elim
  ·exact h.elim
theorem kP (hr:RX σ tm M st) : ∀ {l:List IO} {K:List AV->Prop},cS tm M l K -> ∃ vs,l.mapM (EV st)=some (vs.map (BC σ))/\K vs/\vs.map (BC σ)=vs.map (BJ σ)
 | [],K,h=>⟨[],rfl,h,rfl⟩
 | r::l,K,h=>by
  obtain ⟨v,h1,h2,h3⟩:=Ahs hr (show VC tm M r λ v=>cS tm M l λ vs=>K (v::vs) from h);obtain ⟨vs,h4,h5,h6⟩:=kP hr h2;exact ⟨v::vs,by rw[List.mapM_cons,h1,h4];rfl,h5,by rw[List.map_cons,List.map_cons,h3,h6]⟩
theorem xR (hs:JP σ st.own M) {q:Bool} : ∀ {l:List AV} {K:List AV->Prop},lI q M l K -> ∃ l',(l.map (BC σ)).mapM (CN st.own q)=some l'/\K l' /\ ∀ v∈l,BC σ v=BJ σ v
 | [],K,h=>⟨[],rfl,h,λ v hv=>by cases hv⟩
 | v::r,K,h=>by
  obtain ⟨v',h1,h2,_,h0⟩:=dF hs (show O4 q M [] v λ v'=>lI q M r λ r'=>K (v'::r') from h);obtain ⟨l',h3,h4,h5⟩:=xR hs h2;refine ⟨v'::l',?_,h4,λ u hu => ?_⟩
  ·rw[List.map_cons,List.mapM_cons,show CN st.own q (BC σ v)=some v' from h1,h3];rfl
  ·rcases List.mem_cons.1 hu with rfl|hu
   ·exact h0
   ·exact h5 u hu
theorem Aib {own:AH} {q:Bool} {v v':AV} (h:CN own q v=some v'):Q6 own q v=some v':=by
 cases v with
 | l6 vs=>simp [CN,snap]at h
 | _=>exact h
theorem Agb {f:AV->Option AV} {x y:AV} {r l':List AV} (h:(x::y::r).mapM f=some l') : ∃ a b c,l'=a::b::c:=by
 rw[List.mapM_cons,List.mapM_cons]at h;cases hx:f x with
 | none=>rw[hx]at h;cases h
 | some a =>
  cases hy:f y with
  | none=>rw[hx,hy]at h;cases h
  | some b =>
   cases hr:r.mapM f with
   | none=>rw[hx,hy,hr]at h;cases h
   | some c =>
    rw[hx,hy,hr]at h;exact ⟨a,b,c,(Option.some.inj h).symm⟩
theorem nK {fn:AFn} {r:AV} (hr:RX σ tm M st) (h:OA fn r tm M):XX fn r st:=by
 unfold OA at h;obtain ⟨vs,h1,h2,h3⟩:=kP hr h;obtain ⟨l',h4,h5,h6⟩:=xR hr.sat h2;unfold XX;rw[h1,Option.map_some,Option.bind_some];match vs,l',h4,h5 with
 | [],l',h4,h5 =>
  obtain rfl:=Option.some.inj h4;obtain ⟨e,hc⟩:=h5;exact ⟨by rw[<-e];rfl,hc⟩
 | [v],l',h4,h5 =>
  rw[List.map_cons,List.map_nil,List.mapM_cons]at h4;cases hv:CN st.own false (BC σ v) with
  | none=>rw[hv]at h4;cases h4
  | some v' =>
   rw[hv]at h4;obtain rfl:=Option.some.inj h4;obtain ⟨e,hc⟩:=h5;exact ⟨by rw[<-e];exact Aib hv,hc⟩
 | v::u::w,l',h4,h5 =>
  obtain ⟨a,b,c,rfl⟩:=Agb (show List.mapM (CN st.own false) (BC σ v::BC σ u::w.map (BC σ))=some l' from h4);obtain ⟨e,hc⟩:=h5;refine ⟨?_,hc⟩;rw[<-e];have h4:List.mapM (CN st.own false) (BC σ v::BC σ u::w.map (BC σ))=some (a::b::c):=h4;show Option.map AV.l6 (List.mapM (CN st.own false) (BC σ v::BC σ u::w.map (BC σ)))=_;rw[h4];rfl
def QI:AV->Bool
 | .agg cs=>DR cs
 | v=>tc v
def IX:List AV->Bool
 | []=>true
 | v::r=>bif QI v then IX r else false
theorem aU {v:AV} (h:QI v=true):BC σ v=v:=by
 cases v with
 | agg cs=>simp only[QI]at h;simp only[BC,BJ,IB h]
 | _=>first|rfl|cases h
theorem YC {σ:FC} : ∀ {vs:List AV} {i:Nat},IX vs=true -> ∀ j,g7 (CB i vs) j=BC σ (g7 (CB i vs) j)
 | [],_,_,_=>rfl
 | v::r,i,h,j=>by
  simp only[IX]at h;cases hv:QI v<;>simp only[hv,cond_true,cond_false]at h
  ·cases h
  ·simp only[Afl,ZR]
   split
   ·exact (aU hv).symm
   ·exact YC h j
theorem FH.x {f:Nat} {fn:AFn} {vs:List AV} {r:AV} (hL:L f=some fn) (hp:Nat.beq vs.length fn.bm=true) (hd:IX vs=true) (h:AA L [.code fn.body] (CB 0 vs) [] (OA fn r)):FH L f vs r:=by
 refine FH.fwd hL (BI.1 hp) (Sg (h (λ_ _=>(0,0)) ⟨CB 0 vs,AH.emp⟩ ⟨λ j=>Or.inr ?_,?_⟩) ?_)
 ·rw[JF];exact YC hd j
 ·exact ⟨(λ_ _ _ e=>by cases e),(λ_ _ _ e=>by simp [c4,c8]at e),(λ_ _ _ e=>by simp [c4,c8]at e),(λ_ _ _ _ _ _ e=>by simp [c4,c8]at e),(λ_ _ _ e=>by simp [c4,c8]at e)⟩
 ·rintro s ⟨σ,tm,M,hr,hq⟩
  exact nK hr hq
theorem Ev.x {f:Nat} {fn:AFn} {vs:List AV} {r:AV} (hL:L f=some fn) (hp:Nat.beq vs.length fn.bm=true) (hd:IX vs=true) (h:AA L [.code fn.body] (CB 0 vs) [] (OA fn r)) (hs:fn.ot=false:=by rfl):Ev L f vs r:=(FH.x hL hp hd h).ev hL hs
def FJ:List (Nat × Nat)->Nat->Nat
 | [],k=>k
 | (a,b)::r,k=>bif Nat.beq k a then b else FJ r k
def cV (τ:List (Nat × Nat)):AV->AV
 | .row k t z o n => .row (FJ τ k) t z o n
 | .ptr k t i j => .ptr (FJ τ k) t i j
 | v=>v
def Q4 (τ:List (Nat × Nat)):List AV->List AV
 | []=>[]
 | v::r=>cV τ v::Q4 τ r
def XD (τ:List (Nat × Nat)):AV->AV
 | .agg cs => .agg (Q4 τ cs)
 | .fn p f g cs => .fn p f g (Q4 τ cs)
 | v=>cV τ v
def cX (τ:List (Nat × Nat)):List AV->List AV
 | []=>[]
 | v::r=>XD τ v::cX τ r
def cW (τ:List (Nat × Nat)):AV->AV
 | .l6 cs => .l6 (cX τ cs)
 | v=>XD τ v
def cY (τ:List (Nat × Nat)):List (List AV)->List (List AV)
 | []=>[]
 | v::r=>Q4 τ v::cY τ r
def I9 (τ:List (Nat × Nat)):A3->A3
 | .bx cs => .bx (Q4 τ cs)
 | .rw z es => .rw z es
 | .bs z es => .bs z (cY τ es)
 | .mx rows => .mx rows
 | .hx i v rows => .hx i v rows
 | .vw w rows => .vw w rows
variable {τ:List (Nat × Nat)}
theorem ZG : ∀ l:List AV,Q4 τ l=l.map (cV τ)
 | []=>rfl
 | v::r=>by rw[Q4,ZG r];rfl
theorem xC : ∀ l:List AV,cX τ l=l.map (XD τ)
 | []=>rfl
 | v::r=>by rw[cX,xC r];rfl
theorem dK (v:AV):A4 (λ k t=>σ (FJ τ k) t) v=A4 σ (cV τ v):=by cases v<;>rfl
theorem lS (v:AV):BJ (λ k t=>σ (FJ τ k) t) v=BJ σ (XD τ v):=by
 cases v with
 | agg cs=>simp only[BJ,XD,ZG,List.map_map];exact congrArg AV.agg (List.map_congr_left λ v _=>dK v)
 | fn p f g cs=>simp only[BJ,XD,ZG,List.map_map];exact congrArg (AV.fn p f g) (List.map_congr_left λ v _=>dK v)
 | _=>rfl
theorem Aid (v:AV):BC (λ k t=>σ (FJ τ k) t) v=BC σ (cW τ v):=by
 cases v with
 | l6 cs=>simp only[BC,cW,xC,List.map_map];exact congrArg AV.l6 (List.map_congr_left λ v _=>lS v)
 | agg cs=>exact lS (.agg cs)
 | fn p f g cs=>exact lS (.fn p f g cs)
 | _=>rfl
theorem xD : ∀ l:List (List AV),cY τ l=l.map (Q4 τ)
 | []=>rfl
 | v::r=>by rw[cY,xD r];rfl
theorem Y0 {k:Nat} : ∀ (rows:List (Option (Nat × List (List AV)))) (i:Nat),BU (λ k t=>σ (FJ τ k) t) k i rows=BU σ (FJ τ k) i rows
 | [],i=>rfl
 | none::r,i=>by rw[BU,BU,Y0 r]
 | some (z,es)::r,i=>by rw[BU,BU,Y0 r]
theorem Ua (c:A3) (k:Nat):c.e7 (λ k t=>σ (FJ τ k) t) k=(I9 τ c).e7 σ (FJ τ k):=by
 cases c with
 | bx cs =>
  simp only[A3.e7,I9,ZG,List.length_map,List.map_map];rw[List.map_congr_left λ v _=>dK v];rfl
 | rw z es=>rfl
 | bs z es =>
  simp only[A3.e7,I9,xD,List.map_map];congr 1;refine List.map_congr_left λ cs _ => ?_
  simp only[Function.comp,ZG,List.map_map];exact List.map_congr_left λ v _=>dK v
 | mx rows=>simp only[A3.e7,I9,Y0]
 | hx i v rows=>simp only[A3.e7,I9,Y0]
 | vw w rows=>simp only[A3.e7,I9,Y0]
def vj (k s:Nat) (c:A3):Mem->Mem
 | []=>[(k,s,c)]
 | (j,s',c')::r=>bif Nat.beq k j then (k,s,c)::r else (j,s',c')::vj k s c r
def sd:Mem->Mem
 | []=>[]
 | (k,s,c)::r=>vj k s c (sd r)
def WX:Mem->(Mem->Prop)->Prop
 | [],K=>K []
 | (k,s,c)::r,K=>WX r λ r'=>fM (vj k s c r') K
theorem bY : ∀ (M:Mem) (K:Mem->Prop),WX M K=K (sd M)
 | [],_=>rfl
 | (k,s,c)::r,K=>by rw[WX,bY r,OQ];rfl
theorem vB (k s:Nat) (c:A3) (j:Nat) : ∀ M:Mem,c8 (vj k s c M) j=bif Nat.beq j k then some (s,c) else c8 M j
 | []=>rfl
 | (i,s',c')::r=>by
  simp only[vj];cases hk:Nat.beq k i
  ·simp only[cond_false,c8,vB k s c j r]
   cases hj:Nat.beq j i<;>cases hjk:Nat.beq j k<;>simp only[cond_true,cond_false];exact absurd ((BI.1 hjk).symm.trans (BI.1 hj)) (E5.1 hk)
  ·obtain rfl:=BI.1 hk
   simp only[cond_true,c8];cases Nat.beq j k<;>rfl
theorem WY (j:Nat) : ∀ M:Mem,c8 (sd M) j=c8 M j
 | []=>rfl
 | (k,s,c)::r=>by simp only[sd,vB,WY j r,c8]
theorem cC (k t:Nat):c4 (sd M) k t=c4 M k t:=by simp only[c4,WY]
def yj (τ:List (Nat × Nat)) (M:Mem):List (Nat × Nat × A3)->List (Option (Nat × A3))
 | []=>[]
 | (k,_,_)::r=>c8 M (FJ τ k)::yj τ M r
def yk (τ:List (Nat × Nat)):List (Nat × Nat × A3)->List (Option (Nat × A3))
 | []=>[]
 | (_,s,c)::r=>some (s,I9 τ c)::yk τ r
def Ht (tm:Tm):Tm->List AV
 | []=>[]
 | (j,_)::r=>tg tm j::Ht tm r
def Hu (τ:List (Nat × Nat)):Tm->List AV
 | []=>[]
 | (_,v)::r=>cW τ v::Hu τ r
def cH:List Nat->Bool
 | []=>true
 | k::r=>bif PW k r then false else cH r
def keys (τ:List (Nat × Nat)):Mem->List Nat
 | []=>[]
 | (k,_,_)::r=>FJ τ k::keys τ r
theorem uZ : ∀ {M':Mem} {M:Mem},yj τ M M'=yk τ M' -> ∀ k s c,c8 M' k=some (s,c)->c8 M (FJ τ k)=some (s,I9 τ c)
 | [],_,_,_,_,_,e=>by cases e
 | (i,s',c')::r,M,h,k,s,c,e=>by
  simp only[yj,yk,List.cons.injEq]at h;simp only[c8]at e;cases hb:Nat.beq k i<;>simp only[hb,cond_true,cond_false]at e
  ·exact uZ h.2 k s c e
  ·simp only[Option.some.injEq,Prod.mk.injEq]at e
   obtain ⟨rfl,rfl⟩:=e;rw[BI.1 hb];exact h.1
theorem jR : ∀ {M:Mem} {k s:Nat} {c:A3},c8 M k=some (s,c)->PW (FJ τ k) (keys τ M)=true
 | (i,s',c')::r,k,s,c,e=>by
  simp only[c8]at e;simp only[keys,PW];cases hb:Nat.beq k i<;>simp only[hb,cond_true,cond_false]at e
  ·rw[jR e];cases Nat.beq (FJ τ k) (FJ τ i)<;>rfl
  ·rw[BI.1 hb];simp
theorem vQ : ∀ {M:Mem},cH (keys τ M)=true -> ∀ {k k' s s':Nat} {c c':A3},c8 M k=some (s,c)->c8 M k'=some (s',c')->FJ τ k=FJ τ k'->k=k'
 | [],_,_,_,_,_,_,_,e,_,_=>by cases e
 | (i,s0,c0)::r,h,k,k',s,s',c,c',e,e',hk=>by
  simp only[keys,cH]at h;cases hm:PW (FJ τ i) (keys τ r)<;>simp only[hm,cond_true,cond_false]at h
  ·simp only[c8]at e e'
   cases hb:Nat.beq k i<;>cases m7:Nat.beq k' i<;>simp only[hb,m7,cond_true,cond_false]at e e'
   ·exact vQ h e e' hk
   ·obtain rfl:=BI.1 m7
    have:=jR (τ:=τ) e
    rw[hk,hm]at this;cases this
   ·obtain rfl:=BI.1 hb
    have:=jR (τ:=τ) e'
    rw[<-hk,hm]at this;cases this
   ·exact (BI.1 hb).trans (BI.1 m7).symm
  ·cases h
theorem yW : ∀ {bn:Tm} {tm:Tm},Ht tm bn=Hu τ bn -> ∀ j,tg bn j = .any\/tg tm j=cW τ (tg bn j)
 | [],_,_,_=>Or.inl rfl
 | (i,v)::r,tm,h,j=>by
  simp only[Ht,Hu,List.cons.injEq]at h;simp only[tg];cases hb:Nat.beq j i<;>simp only[cond_true,cond_false]
  ·exact yW h.2 j
  ·rw[BI.1 hb];exact Or.inr h.1
def v7 (ts:List Nat) (tm:Tm):Tm:=match ts with
 | []=>tm
 | t::ts=>vn (mask 0 (t::ts)) tm
def IP (τ:List (Nat × Nat)) (tm:Tm) (M:Mem) (bn:Tm) (M':Mem):Prop :=
 fT (vn 0 bn) λ l=>WX M' λ m=>Ht tm l=Hu τ l/\yj τ M m=yk τ m/\cH (keys τ m)=true
theorem BH {k:List It} {bn:Tm} {M':Mem} {Q:Tm->Mem->Prop} (τ:List (Nat × Nat)) (he:IP τ tm M bn M') (h:AA L k bn M' Q):AA L k tm M Q:=by
 unfold IP at he;rw[WO,bY]at he;obtain ⟨ht,hm,hn⟩:=he;intro σ st hr;have hg : ∀ k s c,c8 M' k=some (s,c)->c8 M (FJ τ k)=some (s,I9 τ c):=λ k s c e=>uZ hm k s c (by rw[WY];exact e)
 have Em : ∀ k t c,c4 M' k t=some c->c4 M (FJ τ k) t=some (I9 τ c):=by
  intro k t c e;obtain ⟨s,c0,g1,g2,g3⟩:=GW e;have:=hg k s c0 g1
  cases t with
  | zero=>rw[g2 rfl];exact DD this
  | succ i =>
   obtain ⟨rows,z,es,(rfl|⟨a,v,rfl⟩)|⟨w,rfl⟩,hr,rfl⟩:=g3 i rfl
   ·simp [c4,this,I9,hr]
   ·simp [c4,this,I9,hr]
   ·simp [c4,this,I9,hr]
 refine h (λ k t=>σ (FJ τ k) t) st ⟨λ j => ?_,⟨?_,?_,?_,?_,?_⟩⟩
 ·have:=yW ht j
  rw[ZP,fA,cond_false]at this;rcases this with e|e
  ·exact Or.inl e
  ·rcases hr.tm j with e'|e'
   ·left
    rw[e']at e;cases hv:tg bn j<;>rw[hv]at e<;>first|rfl|cases e
   ·right
    rw[e',e,Aid]
 ·intro k s c e;exact hr.sat.site _ _ _ (hg k s c e)
 ·intro k t c e;rw[Ua];exact hr.sat.e7 _ _ _ (Em k t c e)
 ·intro k t c e;exact hr.sat.old _ _ _ (Em k t c e)
 ·intro k t k' t' c c' e e' hk
  obtain ⟨q1,q2⟩:=hr.sat.inj _ _ _ _ _ _ (Em _ _ _ e) (Em _ _ _ e') hk;obtain ⟨s,c0,g,_⟩:=GW e;obtain ⟨s',c0',g',_⟩:=GW e';exact ⟨vQ hn (by rw[WY];exact g) (by rw[WY];exact g') q1,q2⟩
 ·intro k t c e hw
  exact hr.sat.low _ _ _ (Em k t c e) (by cases c<;>exact hw)
theorem BQ {k:List It} {bn:Tm} {M':Mem} {Q:Tm->Mem->Prop} (τ:List (Nat × Nat)) (h:AA L k bn M' Q) (he:IP τ tm M bn M':=by (conv=>whnf);exact ⟨rfl,rfl,rfl⟩):AA L k tm M Q:=BH τ he h
theorem mP {k:List It} {Q:Tm->Mem->Prop} (h:AA L k (vn 0 tm) (sd M) Q):AA L k tm M Q:=by
 intro σ st hr;refine h σ st ⟨λ j => ?_,⟨?_,?_,?_,?_,?_⟩⟩
 ·rw[ZP,fA,cond_false];exact hr.tm j
 ·intro k s c e;rw[WY]at e;exact hr.sat.site _ _ _ e
 ·intro k t c e;rw[cC]at e;exact hr.sat.e7 _ _ _ e
 ·intro k t c e;rw[cC]at e;exact hr.sat.old _ _ _ e
 ·intro k t k' t' c c' e e' hk
  rw[cC]at e e';exact hr.sat.inj _ _ _ _ _ _ e e' hk
 ·intro k t c e hw;rw[cC]at e;exact hr.sat.low _ _ _ e hw
def vk (k:Nat) (c:A3):Mem->Mem
 | []=>[]
 | (j,s,c')::r=>bif Nat.beq k j then (j,s,c)::r else (j,s,c')::vk k c r
theorem bZ {k j s:Nat} {c c':A3} : ∀ {M:Mem},c8 (vk k c M) j=some (s,c') -> ∃ c0,c8 M j=some (s,c0)/\(c0=c'\/(j=k/\c'=c))
 | [],e=>by cases e
 | (i,s0,c0)::r,e=>by
  simp only[vk]at e;cases hk:Nat.beq k i<;>simp only[hk,cond_true,cond_false,c8]at e ⊢
  ·cases hj:Nat.beq j i<;>simp only[hj,cond_true,cond_false]at e ⊢
   ·exact bZ e
   ·exact ⟨c',e,Or.inl rfl⟩
  ·cases hj:Nat.beq j i<;>simp only[hj,cond_true,cond_false]at e ⊢
   ·exact ⟨c',e,Or.inl rfl⟩
   ·simp only[Option.some.injEq,Prod.mk.injEq]at e
    obtain ⟨rfl,rfl⟩:=e;exact ⟨c0,rfl,Or.inr ⟨(BI.1 hj).trans (BI.1 hk).symm,rfl⟩⟩
theorem ZU {kk:List It} {Q:Tm->Mem->Prop} (k s:Nat) (e:c8 M k=some (s,.rw 1 [])) (h:AA L kk tm (vk k (.mx []) M) Q):AA L kk tm M Q:=by
 intro σ st hr;have hg : ∀ j t c,c4 (vk k (.mx []) M) j t=some c -> ∃ c0,c4 M j t=some c0/\c0.e7 σ j=c.e7 σ j:=by
  intro j t c g;obtain ⟨s1,c1,g1,g2,g3⟩:=GW g;obtain ⟨c0,q1,q2⟩:=bZ g1;cases t with
  | zero =>
   rw[g2 rfl];rcases q2 with rfl|⟨rfl,rfl⟩
   ·exact ⟨_,DD q1,rfl⟩
   ·rw[e]at q1
    simp only[Option.some.injEq,Prod.mk.injEq]at q1;obtain ⟨rfl,rfl⟩:=q1;exact ⟨_,DD e,rfl⟩
  | succ i =>
   obtain ⟨rows,z,es,(rfl|⟨a,v,rfl⟩)|⟨w,rfl⟩,Bg,rfl⟩:=g3 i rfl
   ·rcases q2 with rfl|⟨rfl,h0⟩
    ·exact ⟨.rw z es,by simp [c4,q1,Bg],rfl⟩
    ·obtain rfl:rows=[]:=by simpa using h0
     simp at Bg
   ·rcases q2 with rfl|⟨rfl,h0⟩
    ·exact ⟨.rw z es,by simp [c4,q1,Bg],rfl⟩
    ·cases h0
   ·rcases q2 with rfl|⟨rfl,h0⟩
    ·exact ⟨.rw z es,by simp [c4,q1,Bg],rfl⟩
    ·cases h0
 refine h σ st ⟨hr.tm,⟨?_,?_,?_,?_,?_⟩⟩
 ·intro j s' c g
  obtain ⟨c0,q1,_⟩:=bZ g;exact hr.sat.site _ _ _ q1
 ·intro j t c g
  obtain ⟨c0,q1,q2⟩:=hg j t c g;rw[<-q2];exact hr.sat.e7 _ _ _ q1
 ·intro j t c g
  obtain ⟨c0,q1,_⟩:=hg j t c g;exact hr.sat.old _ _ _ q1
 ·intro j t j' t' c c' g g' hj
  obtain ⟨_,q1,_⟩:=hg j t c g;obtain ⟨_,q2,_⟩:=hg j' t' c' g';exact hr.sat.inj _ _ _ _ _ _ q1 q2 hj
 ·intro j t c g hw
  cases t with
  | zero =>
   obtain ⟨s1,c1,g1,g2,g3⟩:=GW g;obtain ⟨c0,q1,q2⟩:=bZ g1;have g2:=g2 rfl;subst g2;rcases q2 with rfl|⟨rfl,rfl⟩
   ·exact hr.sat.low _ _ _ (DD q1) hw
   ·exact hr.sat.low _ _ _ (DD e) rfl
  | succ t =>
   obtain ⟨c0,q1,_⟩:=hg _ _ _ g;exact hr.sat.low _ _ _ q1 (cD q1)
theorem JI {k:List It} {c:A9} {Q:Tm->Mem->Prop} (h:AA L (.code c :: .lp c::k) tm M Q):AA L (.lp c::k) tm M Q:=λ σ st hr=>mR.2 (h σ st hr)
theorem VT {α:Type} {k:List It} {c:A9} {Q:Tm->Mem->Prop} (m:α->Nat) (P:α->Prop) (vs:α->Tm) (Ms:α->Mem) (ts:List Nat) (τ:List (Nat × Nat)) (a:α)
  (he:IP τ tm M (vs a++v7 ts tm) (Ms a++M)) (hp:P a)
  (step : ∀ a,P a->(∀ a',m a'<m a->P a'->AA L (.lp c::k) (vs a'++v7 ts tm) (Ms a'++M) Q)->AA L (.code c :: .lp c::k) (vs a++v7 ts tm) (Ms a++M) Q):AA L (.lp c::k) tm M Q:=by
 have key : ∀ n a,m a<n->P a->AA L (.lp c::k) (vs a++v7 ts tm) (Ms a++M) Q:=by
  intro n;induction n with
  | zero=>intro a h;omega
  | succ n ih =>
   intro a ha hp;exact JI (step a hp λ a' h1 h2=>ih a' (by omega) h2)
 exact BH τ he (key (m a+1) a (by omega) hp)
end
end Go.e8
namespace Go.e8
section
variable {α:Type} {enc:α->List AV} {l:List α} {L:Lib}
theorem AG {p q A B:Prop} (h1:p->A) (h2:q->B):AF p q A B:=⟨h1,h2⟩
theorem AU {p A:Prop} (h1:p) (h2:A):AM p A:=⟨h1,h2⟩
section
variable {K:AV->Prop} {a b:Int} {k k':IntKind} {op:BinOp}
theorem Z2 {v:AV} (h:C3 op k a k' b=some v) (hk:K v):AE op k a k' b K:=⟨v,h,hk⟩
theorem A0 (hr : -9223372036854775808<=a+b/\a+b<=9223372036854775807) (hk:K (.int .i64 (a+b))):AE .add .i64 a .i64 b K:=⟨_,by simp only[C3,if_true];rw[IntWalk.i64_in _ hr],hk⟩
theorem BT (hr : -9223372036854775808<=a-b/\a-b<=9223372036854775807) (hk:K (.int .i64 (a-b))):AE .sub .i64 a .i64 b K:=⟨_,by simp only[C3,if_true];rw[IntWalk.i64_in _ hr],hk⟩
theorem PC (hr : -9223372036854775808<=a*b/\a*b<=9223372036854775807) (hk:K (.int .i64 (a*b))):AE .mul .i64 a .i64 b K:=⟨_,by simp only[C3,if_true];rw[IntWalk.i64_in _ hr],hk⟩
theorem V0 (hb:0<b) (h1:(0<=a\/a%b=0)->0<=a%b->a%b<b->K (.int .i64 (a%b))) (h2:a<0->a%b≠0->0<=a%b->a%b<b->K (.int .i64 (a%b-b))):AE .rem .i64 a .i64 b K:=by
 have h5:0<=a%b:=Int.emod_nonneg _ (by omega);have h6:a%b<b:=Int.emod_lt_of_pos _ hb;have e:C3 .rem .i64 a .i64 b=some (.int .i64 (a.tmod b)):=by simp only[C3];rw[if_pos ⟨trivial,by omega⟩]
 by_cases hc:0<=a\/a%b=0
 ·rw[yX hb,if_pos hc]at e
  exact ⟨_,e,h1 hc h5 h6⟩
 ·rw[yX hb,if_neg hc]at e
  exact ⟨_,e,h2 (by omega) (by omega) h5 h6⟩
theorem RT (hb:0<b) (ha : -9223372036854775808<=a/\a<=9223372036854775807) (h1:(0<=a\/a%b=0)->K (.int .i64 (a/b))) (h2:a<0->a%b≠0->K (.int .i64 (a/b+1))):AE .quo .i64 a .i64 b K:=by
 have hr:=Yc (m:=b) (by omega) ha;have e:C3 .quo .i64 a .i64 b=some (.int .i64 (IntKind.i64.wrap (a.tdiv b))):=by simp only[C3];rw[if_pos ⟨trivial,by omega⟩]
 by_cases hc:0<=a\/a%b=0
 ·rw[yV hb,if_pos hc,IntWalk.i64_in _ hr]at e
  exact ⟨_,e,h1 hc⟩
 ·have Bc:a/b<0:=Int.ediv_neg_of_neg_of_pos (by omega) hb
  rw[yV hb,if_neg hc,IntWalk.i64_in _ (by omega)]at e;exact ⟨_,e,h2 (by omega) (by omega)⟩
theorem Qj (h:0<=b/\b<=63) (hk:K (.int .i64 (a/pw b))):AE .shr .i64 a k' b K:=⟨_,AhZ h,hk⟩
theorem Ql (hk:K (.int k (k.wrap (a+b)))):AE .add k a k b K:=⟨_,by simp only[C3,if_true],hk⟩
theorem C8.neg (hr : -9223372036854775808 <= -a /\ -a<=9223372036854775807) (hk:K (.int .i64 (-a))):C8 .neg .i64 a K:=⟨_,by simp only[RE];rw[show (0:Int)-a = -a by omega,IntWalk.i64_in _ hr],hk⟩
theorem C8.go {op:UnOp} {v:AV} (h:RE op (.int k a)=some v) (hk:K v):C8 op k a K:=⟨v,h,hk⟩
end
theorem XQ {k:IntKind} {n:Int} {K:Int->Prop} (e:k.wrap n=n) (h:K n):AZ k n K:=⟨by rw[e];exact h⟩
theorem B6 {n:Int} {K:Int->Prop} (hr:0<=n/\n<=18446744073709551615) (h:K n):AZ .u64 n K:=XQ (IntWalk.u64_in _ hr) h
theorem RG {n:Int} {K:Int->Prop} (hr : -9223372036854775808<=n/\n<=9223372036854775807) (h:K n):AZ .i64 n K:=XQ (IntWalk.i64_in _ hr) h
theorem A8 {a:Int} {z:Nat} {K:List AV->Prop} {e:α} (he:l[a.toNat]? = some e) (h0:0<=a) (hz:(enc e).length=z) (h:K (enc e)):AX (l.map enc) a z K:=⟨h0,enc e,by simp [he],hz,h⟩
theorem eD {a:Int} {z:Nat} {K:List AV->Prop} (h0:0<=a/\a<l.length) (hz : ∀ e,(enc e).length=z) (h : ∀ e,l[a.toNat]? = some e->K (enc e)):AX (l.map enc) a z K:=by
 have he:l[a.toNat]? = some (l[a.toNat]'(by omega)):=zE _;exact A8 he h0.1 (hz _) (h _ he)
theorem Qo {n z:Nat} {K:List AV->Prop} (hn:n<l.length) (hz : ∀ e,(enc e).length=z) (h : ∀ e,l[n]? = some e->K (enc e)):AX (l.map enc) (n:Int) z K :=
 eD ⟨by omega,by omega⟩ hz h
theorem FB {i j n:Nat} {K:List AV->Prop} {f:α->List AV} (hi:i<l.length) (hp : ∀ e,part (enc e) j n=some (f e)) (h : ∀ e,l[i]? = some e->K (f e)):BF (l.map enc) (0+((i:Int)).toNat) j n K:=by
 have he:l[i]? = some l[i]:=zE _;rw[Nat.zero_add,Int.toNat_natCast];exact ⟨enc l[i],f l[i],by simp [he],hp _,h _ he⟩
theorem Rn {i:Int} {j n:Nat} {K:List AV->Prop} {f:α->List AV} (hi:0<=i/\i<l.length) (hp : ∀ e,part (enc e) j n=some (f e)) (h : ∀ e,l[i.toNat]? = some e->K (f e)):BF (l.map enc) (0+i.toNat) j n K:=by
 have hl:i.toNat<l.length:=by omega
 have he:l[i.toNat]? = some l[i.toNat]:=zE _;rw[Nat.zero_add];exact ⟨enc l[i.toNat],f l[i.toNat],by rw[List.getElem?_map,he];rfl,hp _,h _ he⟩
theorem F3 {i:Nat} {vs:List AV} {K:List (List AV)->Prop} (e:α) (he:vs=enc e) (hz : ∀ x,(enc x).length=vs.length) (hi:i<l.length) (h:K ((l.set i e).map enc)):BD (l.map enc) (0+((i:Int)).toNat) 0 vs K:=by
 rw[Nat.zero_add,Int.toNat_natCast];refine ⟨enc l[i],by simp [zE hi],by rw[hz];omega,?_⟩;rw[show splice (enc l[i]) 0 vs=vs by simp [splice,<-hz l[i]],he,<-List.map_set];exact h
theorem Z1 {i j n:Nat} {K:List AV->Prop} {e:α} {ds:List AV} (he:l[i]? = some e) (hp:part (enc e) j n=some ds) (h:K ds):BF (l.map enc) i j n K:=⟨enc e,ds,by simp [he],hp,h⟩
theorem Aic {cs vs:List AV} (h:cs.length=vs.length):splice cs 0 vs=vs:=by
 simp [splice,<-h]
theorem eF {i:Nat} {vs:List AV} {K:List (List AV)->Prop} (e:α) (he:vs=enc e) (hz : ∀ x,(enc x).length=vs.length) (hi:i<l.length) (h:K ((l.set i e).map enc)):BD (l.map enc) i 0 vs K:=by
 refine ⟨enc l[i],by simp [zE hi],by rw[hz];omega,?_⟩;rw[Aic (hz _),he,<-List.map_set];exact h
theorem EH {a b:Int} {bytes:Nat} {zero:List AV} {K:List (List AV)->Nat->Prop} (x:α) (n:Nat) (hx:zero=enc x) (hn:a=n) (hr:a<=b/\b*bytes<=140737488355328/\b<=9223372036854775807) (h:K ((List.replicate n x).map enc) n):B9 a b bytes zero K:=by
 subst hn hx;refine ⟨⟨by omega,hr.1,by simpa [EC] using hr.2.1,hr.2.2⟩,?_⟩;simpa using h
theorem AQ {K:Nat->Prop} (h:K l.length):AP (l.map enc) K:=⟨by simpa using h⟩
theorem EX {len z bytes:Nat} {vs:List AV} {K:List (List AV)->Nat->Prop} (e:α) (he:vs=enc e) (hl:len=l.length) (hz:vs.length=z) (hr:(l.length+1)*bytes<=140737488355328) (dc:l.length+1<=9223372036854775807) (h:K ((l++[e]).map enc) (l++[e]).length):B2 (l.map enc) len [vs] z bytes K:=by
 subst hl;refine ⟨by simp,by simpa using hz,by simpa [EC] using hr,by simpa using dc,?_⟩;rw[zT (by simp)];simpa [he] using h
theorem ZW {len z bytes:Nat} {l':List α} {K:List (List AV)->Nat->Prop} (hl:len=l.length) (hz : ∀ x,(enc x).length=z) (hr:(l.length+l'.length)*bytes<=140737488355328) (dc:l.length+l'.length<=9223372036854775807) (h:K ((l++l').map enc) (l++l').length):B2 (l.map enc) len (l'.map enc) z bytes K:=by
 subst hl;refine ⟨by simp,by simp [hz],by simpa [EC] using hr,by simpa using dc,?_⟩;rw[zT (by simp)];simpa using h
theorem ZV {z bytes:Nat} {vs:List AV} {K:List (List AV)->Nat->Prop} (e:α) (he:vs=enc e) (hz:vs.length=z) (hb:bytes<=140737488355328) (h:K ([e].map enc) 1):CX [vs] z bytes K :=
 ⟨by simpa using hz,by simpa [EC] using hb,by simp,by simpa [he] using h⟩
theorem PB {z bytes:Nat} {K:List (List AV)->Nat->Prop} (hz : ∀ x,(enc x).length=z) (hr:l.length*bytes<=140737488355328) (dc:l.length<=9223372036854775807) (h:K (l.map enc) l.length):CX (l.map enc) z bytes K :=
 ⟨by simp [hz],by simpa [EC] using hr,by simpa using dc,by simpa using h⟩
theorem Z9 {off len:Nat} {K:List (List AV)->Prop} (hl:off+len<=l.length) (h:K (((l.drop off).take len).map enc)):B0 (l.map enc) off len K :=
 ⟨by simpa using hl,by rw[<-List.map_drop,<-List.map_take];exact h⟩
theorem kG : ∀ {e:List AV},E7 e=true->LM e=true/\e.map nl=e
 | [],_=>⟨rfl,rfl⟩
 | v::r,h=>by
  have hv:E7 r=true:=by cases v<;>simp only[E7]at h<;>first|cases h|exact h
  obtain ⟨h1,h2⟩:=kG hv;cases v<;>simp only[E7]at h<;>first|cases h|exact ⟨h1,by rw[List.map_cons,h2];rfl⟩
theorem vT : ∀ {es:List (List AV)},(∀ e∈es,E7 e=true)->es.map (λ e=>e.map nl)=es
 | [],_=>rfl
 | e::r,h=>by rw[List.map_cons,(kG (h e List.mem_cons_self)).2,vT λ x hx=>h x (List.mem_cons_of_mem _ hx)]
theorem X0 {es:List (List AV)} {off len:Nat} {K:List (List AV)->Prop} (hl:off+len<=es.length) (hz : ∀ e∈es,E7 e=true) (h:K ((es.drop off).take len)):A5 es off len K :=
 ⟨hl,λ e he=>(kG (hz e he)).1,by rw[vT λ e he=>hz e (List.mem_of_mem_drop (List.mem_of_mem_take he))];exact h⟩
theorem C7 {off len:Nat} {K:List (List AV)->Prop} (hz : ∀ x,E7 (enc x)=true) (ho:off=0) (hl:len=l.length) (h:K (l.map enc)):A5 (l.map enc) off len K:=by
 subst hl ho;refine X0 (by simp) (λ e he => ?_) (by rw[List.drop_zero,zT (by simp)];exact h);obtain ⟨x,_,rfl⟩:=List.mem_map.1 he;exact hz x
theorem G9 {off len:Nat} {K:List (List AV)->Prop} (hz : ∀ x,E7 (enc x)=true) (hl:off+len<=l.length) (h:K (((l.drop off).take len).map enc)):A5 (l.map enc) off len K:=by
 refine X0 (by simpa using hl) (λ e he => ?_) (by rw[<-List.map_drop,<-List.map_take];exact h);obtain ⟨x,_,rfl⟩:=List.mem_map.1 he;exact hz x
theorem EE {e:List AV} {K:List (List AV)->Prop} (h:K [e]):B0 [e] 0 1 K:=⟨by simp,h⟩
theorem G7 {e:List AV} {K:List (List AV)->Prop} (h0:E7 e=true) (h:K [e]):A5 [e] 0 1 K:=X0 (by simp) (by simpa using h0) h
theorem XZ {e e':List AV} {K:List (List AV)->Prop} (h0:E7 e=true) (h1:E7 e'=true) (h:K [e,e']):A5 [e,e'] 0 2 K:=X0 (by simp) (by simpa using ⟨h0,h1⟩) h
section
variable {β:Type} {z:Nat} {ll:List (List β)} {en:β->List AV}
abbrev BM (z:Nat) (en:β->List AV) (ll:List (List β)):List (Option (Nat × List (List AV))):=ll.map λ r=>some (z,r.map en)
theorem FM {i:Nat} {K:Option (Nat × List (List AV))->Prop} (hi:i<ll.length) (h : ∀ r,ll[i]? = some r->K (some (z,r.map en))):BR (BM z en ll) (0+((i:Int)).toNat) K:=by
 have he:ll[i]? = some ll[i]:=zE _;exact ⟨_,by rw[Nat.zero_add,Int.toNat_natCast,List.getElem?_map,he];rfl,h _ he⟩
theorem Rj {i:Nat} {K:Nat->List (List AV)->Prop} {r:List β} (hr:ll[i]? = some r) (h:K z (r.map en)):BO (BM z en ll) i K :=
 ⟨z,r.map en,by rw[List.getElem?_map,hr];rfl,h⟩
theorem GO {i:Nat} {K:Nat->List (List AV)->Prop} {r:List β} (hr:ll[i]? = some r) (h:K z (r.map en)):BO (BM z en ll) (0+((i:Int)).toNat) K:=by
 rw[Nat.zero_add,Int.toNat_natCast];exact Rj hr h
theorem XP {len bytes:Nat} {r:List β} {K:List (Option (Nat × List (List AV)))->Nat->Prop} (hl:len=ll.length) (hr:(ll.length+1)*bytes<=140737488355328) (dc:ll.length+1<=9223372036854775807) (h:K (BM z en (ll++[r])) (ll++[r]).length):DU (BM z en ll) len (some (z,r.map en)) bytes K:=by
 subst hl;exact ⟨by simp,by simpa [EC] using hr,dc,by simpa [BM] using h⟩
theorem xG (q:Bool) : ∀ ll:List (List β),Q5 q (BM z en ll)=ll.map λ r=>[AV.sl q (r.map en)]
 | []=>rfl
 | r::l=>by simp only[BM,List.map_cons,Q5];rw[show Q5 q (l.map λ r=>some (z,r.map en))=_ from xG q l]
theorem QG {q:Bool} {off len:Nat} {K:List (List AV)->Prop} (hz : ∀ x,E7 (en x)=true) (ho:off=0) (hl:len=ll.length) (h:K (ll.map λ r=>[AV.sl q (r.map en)])):DN q (BM z en ll) off len K:=by
 refine ⟨ho,by simpa using hl,λ z' es hm e he => ?_,by rw[xG];exact h⟩;obtain ⟨r,_,hr⟩:=List.mem_map.1 hm;simp only[Option.some.injEq,Prod.mk.injEq]at hr;obtain ⟨rfl,rfl⟩:=hr;obtain ⟨x,_,rfl⟩:=List.mem_map.1 he;exact hz x
end
theorem Re {len:Nat} {a:Int} {K:Nat->Nat->Prop} (h0:0<=a/\a<=len) (h:K a.toNat len):B5 (some a) none len K:=⟨a.toNat,len,⟨h0.1,rfl⟩,rfl,by omega,h⟩
theorem Rc {len:Nat} {b:Int} {K:Nat->Nat->Prop} (h0:0<=b/\b<=len) (h:K 0 b.toNat):B5 none (some b) len K:=⟨0,b.toNat,rfl,⟨h0.1,h0.2,rfl⟩,by omega,h⟩
theorem mT {len:Nat} {a b:Int} {K:Nat->Nat->Prop} (h0:0<=a/\a<=b/\b<=len) (h:K a.toNat b.toNat):B5 (some a) (some b) len K:=⟨a.toNat,b.toNat,⟨h0.1,rfl⟩,⟨by omega,by omega,rfl⟩,by omega,h⟩
theorem eE {z:Nat} {lo hi:Option Int} {K:List (List AV)->Prop} (hz : ∀ x,(enc x).length=z) (h:B5 lo hi l.length λ a h=>K (((l.take h).drop a).map enc)):CQ z (l.map enc) lo hi K:=by
 refine ⟨by simp [hz],?_⟩;rw[List.length_map];obtain ⟨a,b,h1,h2,h3,h4⟩:=h;refine ⟨a,b,h1,h2,h3,?_⟩;show K _;rw[<-List.map_take,<-List.map_drop];exact h4
theorem OC {z k:Nat} {K:List (List AV)->Prop} (hz : ∀ x,(enc x).length=z) (hk:k<=l.length) (h:K ((l.take k).map enc)):CQ z (l.map enc) none (some (k:Int)) K :=
 eE hz (Rc (by omega) (by simpa using h))
theorem Uh {z k:Nat} {K:List (List AV)->Prop} (hz : ∀ x,(enc x).length=z) (hk:k<=l.length) (h:K ((l.drop k).map enc)):CQ z (l.map enc) (some (k:Int)) none K :=
 eE hz (Re (by omega) (by simpa using h))
theorem AC {f:Nat} {vs:List AV} {K:AV->Prop} {r:AV} (h:Ev L f vs r) (hk:K r):AB L f vs K:=⟨r,h,hk⟩
theorem mV {f:Nat} {vs:List AV} {K:AV->Prop} {p:Prop} [Decidable p] (h:Ev L f vs (.bool (decide p))) (h1:p->K (.bool true)) (h2 : ¬ p->K (.bool false)):AB L f vs K:=by
 refine ⟨_,h,?_⟩;by_cases e:p
 ·rw[decide_eq_true e];exact h1 e
 ·rw[decide_eq_false e];exact h2 e
theorem mU {f:Nat} {vs:List AV} {K:AV->Prop} {b:Bool} (h:Ev L f vs (.bool b)) (h1:b=true->K (.bool true)) (h2:b=false->K (.bool false)):AB L f vs K:=by
 refine ⟨_,h,?_⟩;cases b
 ·exact h2 rfl
 ·exact h1 rfl
theorem AW {a r:AV} (h:a=r) (hc:A1 r):AJ a r:=⟨h,hc⟩
theorem HH {a r:Bool} (h:a=r):AJ (.bool a) (.bool r):=⟨by rw[h],by simp [A1]⟩
theorem XT {p:Prop} [Decidable p] (h:p):AJ (.bool true) (.bool (decide p)):=⟨by simp [h],by simp [A1]⟩
theorem RN {p:Prop} [Decidable p] (h : ¬ p):AJ (.bool false) (.bool (decide p)):=⟨by simp [h],by simp [A1]⟩
theorem CM {k:IntKind} {a b:Int} (h:a=b):AJ (.int k a) (.int k b):=⟨by rw[h],by simp [A1]⟩
theorem X9 (h : ∀ x,CD (enc x)) : ∀ l:List α,FL (l.map enc)
 | []=>by simp [FL]
 | x::r=>by rw[List.map_cons,FL];exact ⟨h x,X9 h r⟩
end
theorem DL {α:Type} {L:Lib} {k:List It} {cd:A9} {tm:Tm} {M:Mem} {Q:Tm->Mem->Prop} (m:α->Nat) (P:α->Prop) (vs:α->Tm) (Ms:α->Mem) (ts:List Nat) (τ:List (Nat × Nat)) (a:α)
  (he:IP τ tm M (vs a++v7 ts tm) (Ms a++M)) (hp:P a)
  (step : ∀ a,P a->(∀ a',m a'<m a->P a'->AA L (.lp cd::k) (vs a'++v7 ts tm) (Ms a'++M) Q)->AA L (.code cd :: .lp cd::k) (vs a++v7 ts tm) (Ms a++M) Q):AA L (.lp cd::k) tm M Q :=
 VT (α:=α) (λ x=>m x) (λ x=>P x) (λ x=>vs x) (λ x=>Ms x) ts τ a he hp λ a h ih=>step a h λ a' h1 h2=>ih a' h1 h2
theorem ZT {α β:Type} {L:Lib} {k:List It} {cd:A9} {tm:Tm} {M:Mem} {Q:Tm->Mem->Prop} (m:α->β->Nat) (P:α->β->Prop) (vs:α->β->Tm) (Ms:α->β->Mem) (ts:List Nat) (τ:List (Nat × Nat)) (a:α) (b:β)
  (he:IP τ tm M (vs a b++v7 ts tm) (Ms a b++M)) (hp:P a b)
  (step : ∀ a b,P a b->(∀ a' b',m a' b'<m a b->P a' b'->AA L (.lp cd::k) (vs a' b'++v7 ts tm) (Ms a' b'++M) Q)->AA L (.code cd :: .lp cd::k) (vs a b++v7 ts tm) (Ms a b++M) Q):AA L (.lp cd::k) tm M Q :=
 VT (α:=α × β) (λ x=>m x.1 x.2) (λ x=>P x.1 x.2) (λ x=>vs x.1 x.2) (λ x=>Ms x.1 x.2) ts τ (a,b) he hp λ⟨a,b⟩ h ih=>step a b h λ a' b' h1 h2=>ih (a',b') h1 h2
theorem Rr {α β γ:Type} {L:Lib} {k:List It} {cd:A9} {tm:Tm} {M:Mem} {Q:Tm->Mem->Prop} (m:α->β->γ->Nat) (P:α->β->γ->Prop) (vs:α->β->γ->Tm) (Ms:α->β->γ->Mem) (ts:List Nat) (τ:List (Nat × Nat)) (a:α) (b:β) (c:γ)
  (he:IP τ tm M (vs a b c++v7 ts tm) (Ms a b c++M)) (hp:P a b c)
  (step : ∀ a b c,P a b c->(∀ a' b' c',m a' b' c'<m a b c->P a' b' c'->AA L (.lp cd::k) (vs a' b' c'++v7 ts tm) (Ms a' b' c'++M) Q)->AA L (.code cd :: .lp cd::k) (vs a b c++v7 ts tm) (Ms a b c++M) Q):AA L (.lp cd::k) tm M Q :=
 VT (α:=α × β × γ) (λ x=>m x.1 x.2.1 x.2.2) (λ x=>P x.1 x.2.1 x.2.2) (λ x=>vs x.1 x.2.1 x.2.2) (λ x=>Ms x.1 x.2.1 x.2.2) ts τ (a,b,c) he hp λ⟨a,b,c⟩ h ih=>step a b c h λ a' b' c' h1 h2=>ih (a',b',c') h1 h2
theorem dV {α β γ δ:Type} {L:Lib} {k:List It} {cd:A9} {tm:Tm} {M:Mem} {Q:Tm->Mem->Prop} (m:α->β->γ->δ->Nat) (P:α->β->γ->δ->Prop) (vs:α->β->γ->δ->Tm) (Ms:α->β->γ->δ->Mem) (ts:List Nat) (τ:List (Nat × Nat)) (a:α) (b:β) (c:γ) (d:δ)
  (he:IP τ tm M (vs a b c d++v7 ts tm) (Ms a b c d++M)) (hp:P a b c d)
  (step : ∀ a b c d,P a b c d->(∀ a' b' c' d',m a' b' c' d'<m a b c d->P a' b' c' d'->AA L (.lp cd::k) (vs a' b' c' d'++v7 ts tm) (Ms a' b' c' d'++M) Q)->AA L (.code cd :: .lp cd::k) (vs a b c d++v7 ts tm) (Ms a b c d++M) Q):AA L (.lp cd::k) tm M Q :=
 VT (α:=α × β × γ × δ) (λ x=>m x.1 x.2.1 x.2.2.1 x.2.2.2) (λ x=>P x.1 x.2.1 x.2.2.1 x.2.2.2) (λ x=>vs x.1 x.2.1 x.2.2.1 x.2.2.2) (λ x=>Ms x.1 x.2.1 x.2.2.1 x.2.2.2) ts τ (a,b,c,d) he hp λ⟨a,b,c,d⟩ h ih=>step a b c d h λ a' b' c' d' h1 h2=>ih (a',b',c',d') h1 h2
theorem Rs {α β γ δ ε:Type} {L:Lib} {k:List It} {cd:A9} {tm:Tm} {M:Mem} {Q:Tm->Mem->Prop} (m:α->β->γ->δ->ε->Nat) (P:α->β->γ->δ->ε->Prop) (vs:α->β->γ->δ->ε->Tm) (Ms:α->β->γ->δ->ε->Mem) (ts:List Nat) (τ:List (Nat × Nat)) (a:α) (b:β) (c:γ) (d:δ) (e:ε)
  (he:IP τ tm M (vs a b c d e++v7 ts tm) (Ms a b c d e++M)) (hp:P a b c d e)
  (step : ∀ a b c d e,P a b c d e->(∀ a' b' c' d' e',m a' b' c' d' e'<m a b c d e->P a' b' c' d' e'->AA L (.lp cd::k) (vs a' b' c' d' e'++v7 ts tm) (Ms a' b' c' d' e'++M) Q)->AA L (.code cd :: .lp cd::k) (vs a b c d e++v7 ts tm) (Ms a b c d e++M) Q):AA L (.lp cd::k) tm M Q :=
 VT (α:=α × β × γ × δ × ε) (λ x=>m x.1 x.2.1 x.2.2.1 x.2.2.2.1 x.2.2.2.2) (λ x=>P x.1 x.2.1 x.2.2.1 x.2.2.2.1 x.2.2.2.2) (λ x=>vs x.1 x.2.1 x.2.2.1 x.2.2.2.1 x.2.2.2.2) (λ x=>Ms x.1 x.2.1 x.2.2.1 x.2.2.2.1 x.2.2.2.2) ts τ (a,b,c,d,e) he hp λ⟨a,b,c,d,e⟩ h ih=>step a b c d e h λ a' b' c' d' e' h1 h2=>ih (a',b',c',d',e') h1 h2
theorem Rt {α β γ δ ε ζ:Type} {L:Lib} {k:List It} {cd:A9} {tm:Tm} {M:Mem} {Q:Tm->Mem->Prop} (m:α->β->γ->δ->ε->ζ->Nat) (P:α->β->γ->δ->ε->ζ->Prop) (vs:α->β->γ->δ->ε->ζ->Tm) (Ms:α->β->γ->δ->ε->ζ->Mem) (ts:List Nat) (τ:List (Nat × Nat)) (a:α) (b:β) (c:γ) (d:δ) (e:ε) (f:ζ)
  (he:IP τ tm M (vs a b c d e f++v7 ts tm) (Ms a b c d e f++M)) (hp:P a b c d e f)
  (step : ∀ a b c d e f,P a b c d e f->(∀ a' b' c' d' e' f',m a' b' c' d' e' f'<m a b c d e f->P a' b' c' d' e' f'->AA L (.lp cd::k) (vs a' b' c' d' e' f'++v7 ts tm) (Ms a' b' c' d' e' f'++M) Q)->AA L (.code cd :: .lp cd::k) (vs a b c d e f++v7 ts tm) (Ms a b c d e f++M) Q):AA L (.lp cd::k) tm M Q :=
 VT (α:=α × β × γ × δ × ε × ζ) (λ x=>m x.1 x.2.1 x.2.2.1 x.2.2.2.1 x.2.2.2.2.1 x.2.2.2.2.2) (λ x=>P x.1 x.2.1 x.2.2.1 x.2.2.2.1 x.2.2.2.2.1 x.2.2.2.2.2) (λ x=>vs x.1 x.2.1 x.2.2.1 x.2.2.2.1 x.2.2.2.2.1 x.2.2.2.2.2) (λ x=>Ms x.1 x.2.1 x.2.2.1 x.2.2.2.1 x.2.2.2.2.1 x.2.2.2.2.2) ts τ (a,b,c,d,e,f) he hp λ⟨a,b,c,d,e,f⟩ h ih=>step a b c d e f h λ a' b' c' d' e' f' h1 h2=>ih (a',b',c',d',e',f') h1 h2
theorem DF {α:Type} {L:Lib} {k:List It} {cd:A9} {tm:Tm} {M:Mem} {Q:Tm->Mem->Prop} (m:α->Nat) (P:α->Prop) (vs:α->Tm) (Ms:α->Mem) (a:α)
  (hp:P a)
  (step : ∀ a,P a->(∀ a',m a'<m a->P a'->AA L (.lp cd::k) (vs a'++v7 [] tm) (Ms a'++M) Q)->AA L (.code cd :: .lp cd::k) (vs a++v7 [] tm) (Ms a++M) Q)
  (he:IP [] tm M (vs a++v7 [] tm) (Ms a++M):=by (conv=>whnf);exact ⟨rfl,rfl,rfl⟩):AA L (.lp cd::k) tm M Q :=
 DL m P vs Ms [] [] a he hp step
theorem HG {α β:Type} {L:Lib} {k:List It} {cd:A9} {tm:Tm} {M:Mem} {Q:Tm->Mem->Prop} (m:α->β->Nat) (P:α->β->Prop) (vs:α->β->Tm) (Ms:α->β->Mem) (a:α) (b:β)
  (hp:P a b)
  (step : ∀ a b,P a b->(∀ a' b',m a' b'<m a b->P a' b'->AA L (.lp cd::k) (vs a' b'++v7 [] tm) (Ms a' b'++M) Q)->AA L (.code cd :: .lp cd::k) (vs a b++v7 [] tm) (Ms a b++M) Q)
  (he:IP [] tm M (vs a b++v7 [] tm) (Ms a b++M):=by (conv=>whnf);exact ⟨rfl,rfl,rfl⟩):AA L (.lp cd::k) tm M Q :=
 ZT m P vs Ms [] [] a b he hp step
theorem FY {α β γ:Type} {L:Lib} {k:List It} {cd:A9} {tm:Tm} {M:Mem} {Q:Tm->Mem->Prop} (m:α->β->γ->Nat) (P:α->β->γ->Prop) (vs:α->β->γ->Tm) (Ms:α->β->γ->Mem) (a:α) (b:β) (c:γ)
  (hp:P a b c)
  (step : ∀ a b c,P a b c->(∀ a' b' c',m a' b' c'<m a b c->P a' b' c'->AA L (.lp cd::k) (vs a' b' c'++v7 [] tm) (Ms a' b' c'++M) Q)->AA L (.code cd :: .lp cd::k) (vs a b c++v7 [] tm) (Ms a b c++M) Q)
  (he:IP [] tm M (vs a b c++v7 [] tm) (Ms a b c++M):=by (conv=>whnf);exact ⟨rfl,rfl,rfl⟩):AA L (.lp cd::k) tm M Q :=
 Rr m P vs Ms [] [] a b c he hp step
theorem AD {L:Lib} {Q:Tm->Mem->Prop} {c:A9} {k:List It} {tm:Tm} {M:Mem} (h:fT (vn 0 tm) λ tm=>WX M λ M=>XK L Q 500 (.code c::k) tm M):AA L (.code c::k) tm M Q:=by
 rw[WO,bY]at h;exact mP (eH h)
end Go.e8

namespace Go.e8
variable {L:Lib}
def CG (N:Nat):AR->Bool
 | .t n=>Nat.blt n N
 | .c _=>true
def Y4 (N:Nat):DG->Bool
 | .a9 x=>CG N x
 | .w9 _ _=>true
 | .pick c a b=>CG N c&&(CG N a&&CG N b)
 | .bin _ x y=>CG N x&&CG N y
 | .beq _ x y=>CG N x&&CG N y
 | .un _ x=>CG N x
 | .conv _ x=>CG N x
 | .box _ x=>CG N x
 | .alloc _ _=>true
 | .build _ ps=>ps.all λ p=>CG N p.2.2
 | .c9 _ _ ps=>ps.all (CG N)
 | .a6 x _=>CG N x
 | .ox x _ _ _=>CG N x
 | .a5 _ _ x i=>CG N x&&CG N i
 | .ld _ _ x=>CG N x
 | .st _ x v=>CG N x&&CG N v
 | .mk _ _ _ _ l c=>CG N l&&CG N c
 | .gp _ x lo hi=>CG N x&&((lo.all (CG N))&&(hi.all (CG N)))
 | .ext x _=>CG N x
 | .len x=>CG N x
 | .mm _ xs=>xs.all (CG N)
 | .app _ _ _ x y=>CG N x&&CG N y
 | .call _ xs=>xs.all (CG N)
 | .e9 _ xs=>xs.all (CG N)
 | .ry _ x=>CG N x
 | .gn _ x=>CG N x
 | .bad=>true
 | .qa _ _ xs=>xs.all (CG N)
 | .n8 x xs=>CG N x&&xs.all (CG N)
 | .o0 _ xs=>xs.all (CG N)
 | .u9 _ _ xs=>xs.all (CG N)
 | .cq _ _ xs=>xs.all (CG N)
 | .nv _ _ x v=>CG N x&&CG N v
def X2 (N:Nat) (a:AI):Bool:=(a.dst.all λ d=>Nat.blt d N)&&((a.guard.all λ g=>Nat.blt g.1 N)&&Y4 N a.op)
def HJ (N:Nat):A9->Bool
 | .skip=>true
 | .ops l _=>l.all (X2 N)
 | .dr c ts _=>HJ N c&&ts.all λ t=>Nat.blt t N
 | .scope c=>HJ N c
 | .seq a b=>HJ N a&&HJ N b
 | .cond c a b=>CG N c&&(HJ N a&&HJ N b)
 | .block _ c=>HJ N c
 | .loop c=>HJ N c
 | .exit _=>true
 | .ret=>true
def QS (N:Nat):It->Bool
 | .code c=>HJ N c
 | .kf ts _=>ts.all λ t=>Nat.blt t N
 | .e7 _=>true
 | .lp c=>HJ N c
structure Gh (N:Nat) (G T T':Tm):Prop where
 lo : ∀ j,j<N->g7 T' j=g7 T j
 hi : ∀ j,N<=j->g7 T' j=g7 G j
variable {N:Nat} {G:Tm}
theorem SJ {a b:Nat}:Nat.blt a b=true↔a<b:=by simp [Nat.blt];omega
theorem Gh.ev {st:St} {T':Tm} {o:AH} (h:Gh N G st.tm T') {x:AR} (hx:CG N x=true):St.ev ⟨T',o⟩ x=st.ev x:=by
 cases x with
 | t n=>exact h.lo n (SJ.1 hx)
 | c v=>rfl
theorem UN {f g:AR->AV} {xs:List AR} (h : ∀ x,CG N x=true->f x=g x) (hx:xs.all (CG N)=true):xs.map f=xs.map g:=by
 apply List.map_congr_left;intro x hm;exact h x (List.all_eq_true.1 hx x hm)
theorem Ye {C:Cl} {c7:List Nat} {ρ ρ':AR->AV} {own:AH} (h : ∀ x,CG N x=true->ρ' x=ρ x) : ∀ (op:DG),Y4 N op=true->g6 C c7 ρ' own op=g6 C c7 ρ own op:=by
 intro op n0;cases op;case build zero ps =>
  have:(ps.map λ p=>(p.1,p.2.1,ρ' p.2.2))=ps.map λ p=>(p.1,p.2.1,ρ p.2.2):=by
   apply List.map_congr_left;intro p hm;rw[h _ (List.all_eq_true.1 n0 p hm)]
  simp only[g6,this]
 case c9 s b9 ps =>
  have:ps.mapM (λ x=>cellsOf (ρ' x))=ps.mapM (λ x=>cellsOf (ρ x)):=by
   have sj:ps.all (CG N)=true:=n0;clear n0;induction ps with
   | nil=>rfl
   | cons p r ih =>
    simp only[List.all_cons,Bool.and_eq_true]at sj;simp only[List.mapM_cons,h _ sj.1,ih sj.2]
  simp only[g6,this]
 case mm m xs=>simp only[g6,UN h n0]
 case call f xs=>simp only[g6,UN h n0]
 case e9 f xs=>simp only[g6,UN h n0]
 case qa p f xs =>
  have:xs.mapM (λ x=>F7 (ρ' x))=xs.mapM (λ x=>F7 (ρ x)):=by
   have sj:xs.all (CG N)=true:=n0;clear n0;induction xs with
   | nil=>rfl
   | cons p r ih =>
    simp only[List.all_cons,Bool.and_eq_true]at sj;simp only[List.mapM_cons,h _ sj.1,ih sj.2]
  simp only[g6,this]
 case o0 f xs=>simp only[g6,UN h n0]
 case u9 s f xs=>simp only[g6,UN h n0]
 case cq s f xs=>simp only[g6,UN h n0]
 case n8 x xs =>
  simp only[Y4,Bool.and_eq_true]at n0;simp only[g6,UN h n0.2,h _ n0.1]
 case gp b9 x lo hi =>
  simp only[Y4,Bool.and_eq_true]at n0;obtain ⟨h1,h2,h3⟩:=n0;cases lo<;>cases hi<;>simp only[Option.all_some,Option.all_none]at h2 h3<;>simp only[g6,h _ h1,h _,h2,h3]
 all_goals (simp only[Y4,Bool.and_eq_true]at n0;simp only[g6,h _,n0])
theorem Gh.dst {T T':Tm} (h:Gh N G T T') {d:Nat} (hd:d<N) (v:AV):Gh N G (jm T d v) (jm T' d v):=by
 constructor
 ·intro j hj
  rw[ZS,ZS,h.lo j hj]
 ·intro j hj
  rw[ZS,h.hi j hj,if_neg (by omega)]
theorem Gh.ov {T T':Tm} {o:AH} (h:Gh N G T T') {d:Option Nat} (hd:(d.all λ d=>Nat.blt d N)=true) (v:AV):((⟨T',o⟩:St).dst d v).own=((⟨T,o⟩:St).dst d v).own/\Gh N G ((⟨T,o⟩:St).dst d v).tm ((⟨T',o⟩:St).dst d v).tm:=by
 cases d with
 | none=>exact ⟨rfl,h⟩
 | some d=>exact ⟨rfl,h.dst (SJ.1 hd) v⟩
theorem Aie {C:Cl} {a:AI} (ha:X2 N a=true) {T T':Tm} {o:AH} (h:Gh N G T T') {s':St} (hs:CO C a ⟨T',o⟩=some s') : ∃ s,CO C a ⟨T,o⟩=some s/\s'.own=s.own/\Gh N G s.tm s'.tm:=by
 simp only[X2,Bool.and_eq_true]at ha;obtain ⟨h1,h2,h3⟩:=ha;have hg:E6 ⟨T',o⟩ a.guard=E6 ⟨T,o⟩ a.guard:=by
  cases hgg:a.guard with
  | none=>rfl
  | some g =>
   rw[hgg]at h2;simp only[E6,h.lo _ (SJ.1 h2)]
 have he:=Ye (C:=C) (c7:=a.c7) (own:=o) (ρ:=St.ev ⟨T,o⟩) (ρ':=St.ev ⟨T',o⟩) (λ x hx=>Gh.ev (st:=⟨T,o⟩) h hx) a.op h3;unfold CO at hs ⊢;rw[hg,he]at hs;cases Co:E6 ⟨T,o⟩ a.guard with
 | none=>rw[Co]at hs;cases hs
 | some b =>
  rw[Co]at hs;cases b with
  | false =>
   simp only[Option.some.injEq]at hs ⊢;subst hs;exact ⟨_,rfl,h.ov h1 _⟩
  | true =>
   simp only at hs ⊢;cases xm:g6 C a.c7 (St.ev ⟨T,o⟩) o a.op with
   | none=>rw[xm]at hs;cases hs
   | some e =>
    rw[xm]at hs;simp only[Option.map_some,Option.some.injEq]at hs ⊢;subst hs;refine ⟨_,rfl,?_⟩;cases e with
    | val v=>exact h.ov h1 v
    | new s b v=>exact ⟨rfl,(h.ov (o:=o) h1 _).2⟩
    | yl s b v=>exact ⟨rfl,(h.ov (o:=o) h1 _).2⟩
    | ea v o'=>exact ⟨rfl,(h.ov (o:=o) h1 _).2⟩
    | q8 s x=>exact ⟨rfl,(h.ov (o:=o) h1 _).2⟩
    | wm s x v=>exact ⟨rfl,(h.ov (o:=o) h1 _).2⟩
theorem yO {C:Cl} : ∀ {l:List AI},l.all (X2 N)=true -> ∀ {T T':Tm} {o:AH},Gh N G T T' -> ∀ {s':St},CU C l ⟨T',o⟩=some s' -> ∃ s,CU C l ⟨T,o⟩=some s/\s'.own=s.own/\Gh N G s.tm s'.tm
 | [],_,T,T',o,h,s',hs=>by
  simp only[CU,Option.some.injEq]at hs;subst hs;exact ⟨_,rfl,rfl,h⟩
 | a::l,ha,T,T',o,h,s',hs=>by
  simp only[List.all_cons,Bool.and_eq_true]at ha;simp only[CU]at hs;cases h1:CO C a ⟨T',o⟩ with
  | none=>rw[h1]at hs;cases hs
  | some s1 =>
   rw[h1]at hs;obtain ⟨s2,e1,e2,e3⟩:=Aie ha.1 h h1;obtain ⟨T1,o1⟩:=s1;obtain ⟨T2,o2⟩:=s2;simp only at e2 e3;subst e2;obtain ⟨s3,f1,f2,f3⟩:=yO ha.2 e3 hs;exact ⟨s3,by simp only[CU,e1,f1],f2,f3⟩
theorem YQ {id:Nat} : ∀ {k k':List It},k.all (QS N)=true->DC id k=some k'->k'.all (QS N)=true
 | [],_,_,h=>by simp [DC]at h
 | it::k,k',hk,h=>by
  simp only[List.all_cons,Bool.and_eq_true]at hk;cases it with
  | e7 i =>
   simp only[DC]at h;split at h
   ·cases h;exact hk.2
   ·exact YQ hk.2 h
  | code c=>simp only[DC]at h;exact YQ hk.2 h
  | kf a b=>simp only[DC]at h;exact YQ hk.2 h
  | lp c=>simp only[DC]at h;exact YQ hk.2 h
theorem H0 {C:Cl} : ∀ (n:Nat) {k:List It},k.all (QS N)=true -> ∀ {T T':Tm} {o:AH},Gh N G T T' -> ∀ {s':St},run C n k ⟨T',o⟩=some s' -> ∃ s,run C n k ⟨T,o⟩=some s/\s'.own=s.own/\Gh N G s.tm s'.tm
 | 0,k,_,T,T',o,_,s',hs=>by simp [run]at hs
 | n+1,[],_,T,T',o,h,s',hs=>by
  simp only[run,Option.some.injEq]at hs ⊢;subst hs;exact ⟨_,rfl,rfl,h⟩
 | n+1,.e7 _::k,hk,T,T',o,h,s',hs=>by
  simp only[List.all_cons,Bool.and_eq_true]at hk;simp only[run]at hs ⊢;exact H0 n hk.2 h hs
 | n+1,.kf ts ss::k,hk,T,T',o,h,s',hs=>by
  simp only[List.all_cons,Bool.and_eq_true]at hk;simp only[run]at hs ⊢;refine H0 n hk.2 ⟨λ j hj => ?_,λ j hj => ?_⟩ hs
  ·rw[XH,XH,h.lo j hj]
  ·rw[XH,h.hi j hj,if_neg]
   intro hc;have:=List.all_eq_true.1 hk.1 j (by simpa using hc)
   have:=SJ.1 this
   omega
 | n+1,.lp c::k,hk,T,T',o,h,s',hs=>by
  simp only[run]at hs ⊢;have ik:=hk;simp only[List.all_cons,Bool.and_eq_true]at hk;exact H0 n (by simp only[List.all_cons,Bool.and_eq_true];exact ⟨hk.1,hk.1,hk.2⟩) h hs
 | n+1,.code c::k,hk,T,T',o,h,s',hs=>by
  simp only[List.all_cons,Bool.and_eq_true]at hk;obtain ⟨hc,hk⟩:=hk;cases c with
  | skip=>simp only[run]at hs ⊢;exact H0 n hk h hs
  | ops l d =>
   simp only[run]at hs ⊢;cases h1:CU C l ⟨T',o⟩ with
   | none=>rw[h1]at hs;cases hs
   | some s1 =>
    rw[h1]at hs;obtain ⟨s2,e1,e2,e3⟩:=yO (show l.all (X2 N)=true from hc) h h1;obtain ⟨T1,o1⟩:=s1;obtain ⟨T2,o2⟩:=s2;simp only at e2 e3;subst e2;rw[e1];exact H0 n hk e3 hs
  | dr c ts ss =>
   simp only[run]at hs ⊢;simp only[QS,HJ,Bool.and_eq_true]at hc;exact H0 n (by simp only[List.all_cons,Bool.and_eq_true];exact ⟨hc.1,hc.2,hk⟩) h hs
  | scope c =>
   simp only[run]at hs ⊢;exact H0 n (by simp only[List.all_cons,Bool.and_eq_true];exact ⟨hc,hk⟩) h hs
  | seq a b =>
   simp only[run]at hs ⊢;simp only[QS,HJ,Bool.and_eq_true]at hc;exact H0 n (by simp only[List.all_cons,Bool.and_eq_true];exact ⟨hc.1,hc.2,hk⟩) h hs
  | cond x a b =>
   simp only[QS,HJ,Bool.and_eq_true]at hc;simp only[run,Gh.ev (st:=⟨T,o⟩) h hc.1]at hs ⊢;cases hx:St.ev ⟨T,o⟩ x<;>rw[hx]at hs<;>try (simp at hs;done)
   rename_i q;cases q
   ·exact H0 n (by simp only[List.all_cons,Bool.and_eq_true];exact ⟨hc.2.2,hk⟩) h hs
   ·exact H0 n (by simp only[List.all_cons,Bool.and_eq_true];exact ⟨hc.2.1,hk⟩) h hs
  | block id c =>
   simp only[run]at hs ⊢;exact H0 n (by simp only[List.all_cons,Bool.and_eq_true];exact ⟨hc,rfl,hk⟩) h hs
  | loop c =>
   simp only[run]at hs ⊢;exact H0 n (by simp only[List.all_cons,Bool.and_eq_true];exact ⟨hc,hc,hk⟩) h hs
  | exit id =>
   simp only[run]at hs ⊢;cases he:DC id k with
   | none=>rw[he]at hs;cases hs
   | some k' =>
    rw[he]at hs;exact H0 n (YQ hk he) h hs
  | ret =>
   simp only[run,Option.some.injEq]at hs ⊢;subst hs;exact ⟨_,rfl,rfl,h⟩
def FX (N:Nat):Tm->Tm
 | []=>[]
 | (i,v)::r=>(N+i,v)::FX N r
def gh (N:Nat):Tm->Tm
 | []=>[]
 | (i,v)::r=>bif Nat.ble N i then (Nat.sub i N,v)::gh N r else gh N r
theorem mD (N j:Nat) : ∀ T:Tm,g7 (FX N T) (N+j)=g7 T j
 | []=>rfl
 | (i,v)::r=>by
  have ih:=mD N j r;simp only[FX,g7,ih];by_cases h:j=i
  ·simp [h]
  ·rw[if_neg h,if_neg (by omega)]
theorem mE {N j:Nat} (hj:j<N) : ∀ T:Tm,g7 (FX N T) j = .any
 | []=>rfl
 | (i,v)::r=>by
  simp only[FX,g7,mE hj r];rw[if_neg (by omega)]
theorem mB (N j:Nat) : ∀ T:Tm,g7 (gh N T) j=g7 T (N+j)
 | []=>rfl
 | (i,v)::r=>by
  have ih:=mB N j r;simp only[gh];cases h:Nat.ble N i
  ·have h1 : ¬ N<=i:=λ e=>by rw[Nat.ble_eq_true_of_le e]at h;cases h
   simp only[cond,g7,ih];rw[if_neg (by omega)]
  ·have h1:=Nat.le_of_ble_eq_true h
   simp only[cond,g7,ih];by_cases h2:j=i-N
   ·rw[if_pos (show j=Nat.sub i N from h2),if_pos (by omega)]
   ·rw[if_neg (show ¬ j=Nat.sub i N from h2),if_neg (by omega)]
def K3 (f:AV->AV):Tm->Tm
 | []=>[]
 | (i,v)::r=>(i,f v)::K3 f r
theorem JG {f:AV->AV} (hf:f .any = .any) (j:Nat) : ∀ T:Tm,g7 (K3 f T) j=f (g7 T j)
 | []=>hf.symm
 | (i,v)::r=>by
  simp only[K3,g7,JG hf j r];by_cases h:j=i<;>simp [h]
theorem jD (f:AV->AV) : ∀ (i:Nat) (vs:List AV),CB i (vs.map f)=K3 f (CB i vs)
 | _,[]=>rfl
 | i,v::r=>by simp only[List.map_cons,CB,K3,jD f (i+1) r]
theorem ZQ (j:Nat) (b:Tm) : ∀ a:Tm,((a.any λ p=>p.1 == j)=true/\g7 (a++b) j=g7 a j)\/((a.any λ p=>p.1 == j)=false/\g7 (a++b) j=g7 b j)
 | []=>Or.inr ⟨rfl,rfl⟩
 | (i,v)::r=>by
  by_cases h:j=i
  ·subst h
   exact Or.inl (by simp [g7])
  ·have h' : ¬ i=j:=λ e=>h e.symm
   rcases ZQ j b r with ⟨h1,h2⟩|⟨h1,h2⟩
   ·exact Or.inl ⟨by rw[List.any_cons,h1,Bool.or_true],by simp only[List.cons_append,g7,if_neg h,h2]⟩
   ·exact Or.inr ⟨by rw[List.any_cons,h1,Bool.or_false];simpa using h',by simp only[List.cons_append,g7,if_neg h,h2]⟩
theorem jC (j:Nat) : ∀ (i:Nat) (vs:List AV),((CB i vs).any λ p=>p.1 == j)=true->j<i+vs.length
 | _,[],h=>by simp [CB]at h
 | i,v::r,h=>by
  simp only[CB,List.any_cons,Bool.or_eq_true,beq_iff_eq]at h;rcases h with h|h
  ·simp;omega
  ·have:=jC j (i+1) r h
   simp;omega
theorem mC (j:Nat) : ∀ (i:Nat) (vs:List AV),((CB i vs).any λ p=>p.1 == j)=false->g7 (CB i vs) j = .any
 | _,[],_=>rfl
 | i,v::r,h=>by
  simp only[CB,List.any_cons,Bool.or_eq_false_iff,beq_eq_false_iff_ne]at h;simp only[CB,g7];rw[if_neg λ e=>h.1 e.symm,mC j (i+1) r h.2]
theorem J7 (σ:FC):BC σ .any = .any:=rfl
def Q3 (tm:Tm):List IO->Option (List AV)
 | []=>some []
 | .tmp t::r=>match HZ (tg tm t),Q3 tm r with
  | some v,some vs=>some (v::vs)
  | _,_=>none
 | .cell _ _ _::_=>none
def ZF (N:Nat):List IO->Bool
 | []=>true
 | .tmp t::r=>Nat.blt t N&&ZF N r
 | .cell _ _ _::_=>false
def nJ (N:Nat) (fn:AFn) (tm:Tm) (K:AV->Mem->Prop) (bn:Tm) (M':Mem):Prop:=gh N bn=tm /\ ∃ rs,Q3 bn fn.res=some rs/\K (HB rs) M'
theorem Ahr {σ:FC} {v u:AV} (h:HZ v=some u):u=v/\BC σ v=BJ σ v/\HZ (BC σ v)=some (BC σ v):=by
 cases v<;>simp [HZ]at h<;>subst h<;>exact ⟨rfl,rfl,rfl⟩
theorem kO {σ:FC} {bn:Tm} {M:Mem} {s s':St} (hr:RX σ bn M s') (od : ∀ j,j<N->g7 s'.tm j=g7 s.tm j) : ∀ {res:List IO} {rs:List AV},ZF N res=true->Q3 bn res=some rs->res.mapM (EV s)=some (rs.map (BJ σ)) /\ ∀ v∈rs,BC σ v=BJ σ v
 | [],rs,_,h=>by
  simp only[Q3,Option.some.injEq]at h;subst h;exact ⟨rfl,by simp⟩
 | .cell _ _ _::_,_,_,h=>by simp [Q3]at h
 | .tmp t::r,rs,hl,h=>by
  simp only[ZF,Bool.and_eq_true]at hl;simp only[Q3]at h;cases h1:HZ (tg bn t) with
  | none=>rw[h1]at h;simp at h
  | some v =>
   cases h2:Q3 bn r with
   | none=>rw[h1,h2]at h;simp at h
   | some vs =>
    rw[h1,h2]at h;simp only[Option.some.injEq]at h;subst h;obtain ⟨i1,i2⟩:=kO hr od hl.2 h2;obtain ⟨rfl,j2,j3⟩:=Ahr (σ:=σ) h1;have:g7 s.tm t=BC σ (tg bn t):=by
     rcases hr.tm t with e|e
     ·rw[e]at h1;cases h1
     ·rw[<-od t (SJ.1 hl.1),e]
    refine ⟨?_,?_⟩
    ·rw[j2]at j3 this
     simp only[List.mapM_cons,EV,this,j3,i1,List.map_cons];rfl
    ·intro v hv
     simp only[List.mem_cons]at hv;rcases hv with rfl|hv
     ·exact j2
     ·exact i2 v hv
theorem wZ {σ:FC} {rs:List AV} (h : ∀ v∈rs,BC σ v=BJ σ v):HB (rs.map (BJ σ))=BC σ (HB rs):=by
 match rs,h with
 | [],_=>rfl
 | [v],h=>exact (h v (by simp)).symm
 | _::_::_,_=>rfl
theorem EM {f:Nat} {fn:AFn} {vs:List AV} {tm:Tm} {M:Mem} {K:AV->Mem->Prop} (N:Nat) (hL:L f=some fn) (hp:Nat.beq vs.length fn.bm=true) (hN:(Nat.ble fn.bm N&&(HJ N fn.body&&ZF N fn.res))=true)
  (h:AA L [.code fn.body] (CB 0 vs++FX N tm) M (nJ N fn tm K)):A7 L f vs tm M K:=by
 intro σ own hs;simp only[Bool.and_eq_true]at hN;obtain ⟨n1,n2,n3⟩:=hN;have n1:=Nat.le_of_ble_eq_true n1;have hp:vs.length=fn.bm:=Nat.eq_of_beq_eq_true hp;have Le:RX σ (CB 0 vs++FX N tm) M ⟨K3 (BC σ) (CB 0 vs++FX N tm),own⟩:=⟨λ j=>Or.inr (by rw[JF];exact JG (J7 σ) j _),hs⟩;obtain ⟨n,c,s',hr,σ',bn,M',hR,hg,rs,Cu,hk⟩:=h σ _ Le;have Jz:Gh N (K3 (BC σ) (FX N tm)) (CB 0 (vs.map (BC σ))) (K3 (BC σ) (CB 0 vs++FX N tm)):=by
  constructor
  ·intro j hj
   rw[jD,JG (J7 σ),JG (J7 σ)];rcases ZQ j (FX N tm) (CB 0 vs) with ⟨_,e⟩|⟨hn,e⟩
   ·rw[e]
   ·rw[e,mE hj,mC j 0 vs hn]
  ·intro j hj
   rw[JG (J7 σ),JG (J7 σ)];rcases ZQ j (FX N tm) (CB 0 vs) with ⟨hn,e⟩|⟨_,e⟩
   ·have:=jC j 0 vs hn
    omega
   ·rw[e]
 obtain ⟨s,r1,r2,r3⟩:=H0 n (by simp [QS,n2]) Jz hr;obtain ⟨i1,i2⟩:=kO (s:=s) hR r3.lo n3 Cu;refine ⟨HB rs,s.own,σ',M',FZ.intro hL (by simpa using hp) ⟨n,c,s,r1,?_,rfl⟩,?_,?_,hk⟩
 ·rw[i1,Option.map_some,wZ i2]
 ·rw[<-r2];exact hR.sat
 ·intro j
  have e1:tg tm j=tg bn (N+j):=by rw[JF,JF,<-hg,mB]
  rcases hR.tm (N+j) with e|e
  ·rw[e1,e];rfl
  ·rw[e1,<-e,r3.hi (N+j) (by omega),JG (J7 σ),mD,<-JF,e1]
theorem aB {α:Type} {enc:α->List AV} {l:List α} {i:Nat} {vs:List AV} {K:List (List AV)->Prop} (n:Nat) (e:α) (hn:i=n) (he:vs=enc e) (hz : ∀ x,(enc x).length=vs.length) (hi:n<l.length) (h:K ((l.set n e).map enc)):BD (l.map enc) i 0 vs K:=by
 subst hn;exact eF e he hz hi h
theorem GN {x:Int} {len:Nat} {K:Nat->Nat->Prop} (h:Nat) (hx:x=h) (hl:h<=len) (hk:K 0 h):B5 none (some x) len K:=⟨0,h,rfl,⟨by omega,by omega,by omega⟩,by omega,hk⟩
theorem Rb {x:Int} {len:Nat} {K:Nat->Nat->Prop} (a:Nat) (hx:x=a) (hl:a<=len) (hk:K a len):B5 (some x) none len K:=⟨a,len,⟨by omega,by omega⟩,rfl,by omega,hk⟩
end Go.e8

namespace Go.e8
section
variable {K:AV->Prop} {a b:Nat} {k':IntKind}
theorem wrap_u32 (n:Nat):IntKind.u32.wrap (n:Int)=((n%4294967296:Nat):Int):=by rw[IntKind.wrap_u32];omega
theorem AiL (n:Nat):IntKind.u64.wrap (n:Int)=((n%18446744073709551616:Nat):Int):=by
 simp [IntKind.wrap,IntKind.bits,IntKind.signed]
theorem FN (h:a+b<=18446744073709551615) (hk:K (.int .u64 ((a+b:Nat):Int))):AE .add .u64 (a:Int) .u64 (b:Int) K :=
 ⟨_,by simp only[C3,if_true];rw[IntWalk.u64_in _ (by omega)],by simpa using hk⟩
theorem H9 (h:b<=a) (h2:a<=18446744073709551615) (hk:K (.int .u64 ((a-b:Nat):Int))):AE .sub .u64 (a:Int) .u64 (b:Int) K :=
 ⟨_,by simp only[C3,if_true];rw[IntWalk.u64_in _ (by omega)],by rw[show (a:Int)-b=((a-b:Nat):Int) by omega];exact hk⟩
theorem Z7 (h:b<=18446744073709551616) (hk:K (.int .u64 ((D7 a b:Nat):Int))):AE .sub .u64 (a:Int) .u64 (b:Int) K :=
 Z2 (v := .int .u64 (IntKind.u64.wrap ((a:Int)-b))) (by simp only[C3,if_true]) (by
  have e:IntKind.u64.wrap ((a:Int)-b)=((D7 a b:Nat):Int):=by
   rw[VQ];simp only[IntKind.wrap,IntKind.bits,IntKind.signed];simp;omega
  rw[e];exact hk)
theorem PD (h:a*b<=18446744073709551615) (hk:K (.int .u64 ((a*b:Nat):Int))):AE .mul .u64 (a:Int) .u64 (b:Int) K :=
 ⟨_,by simp only[C3,if_true];rw[<-Int.natCast_mul,IntWalk.u64_in _ (by omega)],hk⟩
theorem Z5 (h:0<b) (h2:a<=18446744073709551615) (hk:K (.int .u64 ((a/b:Nat):Int))):AE .quo .u64 (a:Int) .u64 (b:Int) K:=by
 refine ⟨_,by simp only[C3];rw[if_pos ⟨trivial,by omega⟩],?_⟩;rw[IntWalk.u64_quo _ _ ⟨by omega,by omega,by omega⟩,<-Int.natCast_ediv];exact hk
theorem XW (h:0<b) (hk:K (.int .u64 ((a%b:Nat):Int))):AE .rem .u64 (a:Int) .u64 (b:Int) K:=by
 refine ⟨_,by simp only[C3];rw[if_pos ⟨trivial,by omega⟩],?_⟩;rw[IntWalk.rem_in _ _ (by omega),<-Int.natCast_emod];exact hk
theorem AhY {k:IntKind} {n:Nat} (hn:n<=k.bits):C3 .shl k (a:Int) k' (n:Int)=some (.int k (k.wrap ((a*2^n:Nat):Int))):=by
 simp only[C3];rw[if_neg (by omega),Int.toNat_natCast,Nat.min_eq_left hn];simp
theorem Ah2 {k:IntKind} {n:Nat} (hn:n<=k.bits):C3 .shr k (a:Int) k' (n:Int)=some (.int k ((a/2^n:Nat):Int)):=by
 simp only[C3];rw[if_neg (by omega),Int.toNat_natCast,Nat.min_eq_left hn,Int.fdiv_eq_ediv_of_nonneg _ (Int.le_of_lt (Int.pow_pos (by omega)))];simp
theorem eB {k:IntKind} {n:Nat} (hn:n<=k.bits) (hk:K (.int k (k.wrap ((a*2^n:Nat):Int)))):AE .shl k (a:Int) k' (n:Int) K:=⟨_,AhY hn,hk⟩
theorem PF {k:IntKind} {n:Nat} (hn:n<=k.bits) (hk:K (.int k ((a/2^n:Nat):Int))):AE .shr k (a:Int) k' (n:Int) K:=⟨_,Ah2 hn,hk⟩
theorem N9 (h:a<=4294967295) (hk:K (.int .u64 ((a*4294967296:Nat):Int))):AE .shl .u64 (a:Int) k' 32 K:=by
 refine eB (n:=32) (by decide) ?_;rw[AiL,show a*2^32%18446744073709551616=a*4294967296 by omega];exact hk
theorem E4 (hk:K (.int .u64 ((a/4294967296:Nat):Int))):AE .shr .u64 (a:Int) k' 32 K:=PF (n:=32) (by decide) hk
theorem Z6 (hk:K (.int .u64 ((a/9223372036854775808:Nat):Int))):AE .shr .u64 (a:Int) k' 63 K:=PF (n:=63) (by decide) hk
theorem Rq (hk:K (.int .u64 ((a/4:Nat):Int))):AE .shr .u64 (a:Int) k' 2 K:=PF (n:=2) (by decide) hk
theorem Rp (hk:K (.int .u32 ((a/65536:Nat):Int))):AE .shr .u32 (a:Int) k' 16 K:=PF (n:=16) (by decide) hk
theorem Qg (hk:K (.int .u32 ((a/256:Nat):Int))):AE .shr .u32 (a:Int) k' 8 K:=PF (n:=8) (by decide) hk
theorem Ro (hk:K (.int .u32 ((a/2:Nat):Int))):AE .shr .u32 (a:Int) k' 1 K:=PF (n:=1) (by decide) hk
theorem kE (w n:Nat):(BitVec.ofInt w (n:Int)).toNat=n%2^w:=by rw[BitVec.toNat_ofInt];omega
theorem AgV {n x y:Nat} (hx:x%2^n=0) (hy:y<2^n):x ||| y=x+y:=by
 have e:x=2^n*(x/2^n):=by have:=Nat.mod_add_div x (2^n);omega
 rw[e,<-Nat.two_pow_add_eq_or_of_lt hy]
theorem eA {k:IntKind} (n:Nat) (hx:a%2^n=0) (hy:b<2^n) (h:a+b<2^k.bits) (hw:k.wrap ((a+b:Nat):Int)=((a+b:Nat):Int)) (hk:K (.int k ((a+b:Nat):Int))):AE .or k (a:Int) k (b:Int) K:=by
 refine Z2 (v := .int k (k.wrap (BitVec.ofInt k.bits (a:Int) ||| BitVec.ofInt k.bits (b:Int)).toNat)) (by simp only[C3,if_true]) ?_;rw[BitVec.toNat_or,kE,kE,Nat.mod_eq_of_lt (by omega),Nat.mod_eq_of_lt (by omega),AgV hx hy,hw];exact hk
theorem PE (h:a%4294967296=0/\b<4294967296/\a+b<=18446744073709551615) (hk:K (.int .u64 ((a+b:Nat):Int))):AE .or .u64 (a:Int) .u64 (b:Int) K :=
 eA 32 h.1 h.2.1 (show a+b<18446744073709551616 by omega) (IntWalk.u64_in _ (by omega)) hk
theorem nF (h:a<=18446744073709551615) (hk:K (.int .u64 ((a%4294967296:Nat):Int))):AE .and .u64 (a:Int) .u64 4294967295 K:=by
 refine Z2 (v := .int .u64 (IntKind.u64.wrap (BitVec.ofInt IntKind.u64.bits (a:Int) &&& BitVec.ofInt IntKind.u64.bits 4294967295).toNat)) (by simp only[C3,if_true]) ?_;rw[BitVec.toNat_and,kE,show (BitVec.ofInt IntKind.u64.bits 4294967295).toNat=2^32-1 by decide,Nat.and_two_pow_sub_one_eq_mod,show a%2^IntKind.u64.bits=a from Nat.mod_eq_of_lt (show a<18446744073709551616 by omega),IntWalk.u64_in _ (by omega)];exact hk
theorem nE (hk:K (.int .u32 (((a+b)%4294967296:Nat):Int))):AE .add .u32 (a:Int) .u32 (b:Int) K :=
 Z2 (v := .int .u32 (IntKind.u32.wrap ((a:Int)+b))) (by simp only[C3,if_true]) (by rw[<-Int.natCast_add,wrap_u32];exact hk)
end
section
variable {K:Int->Prop} {n:Nat}
theorem mY (h:n<=18446744073709551615) (hk:K (n:Int)):AZ .u64 (n:Int) K:=XQ (IntWalk.u64_in _ (by omega)) hk
theorem DX (h:n<=4294967295) (hk:K (n:Int)):AZ .u32 (n:Int) K:=XQ (IntWalk.u32_in _ (by omega)) hk
theorem FG (hk:K ((n%4294967296:Nat):Int)):AZ .u32 (n:Int) K:=⟨by rw[wrap_u32];exact hk⟩
theorem Rh (h:n<=255) (hk:K (n:Int)):AZ .u8 (n:Int) K:=XQ (IntWalk.u8_in _ (by omega)) hk
end
theorem aD {tb:List Nat} {n v:Nat} {K:Nat->Prop} (hv:tb[n]? = some v) (hk:K v):R3 tb (n:Int) K:=⟨by omega,v,by rw[Int.toNat_natCast];exact hv,hk⟩
abbrev AL (n:Nat):List AV:=[.int .u32 (n:Int)]
theorem CI (l:List Nat):FL (l.map AL):=X9 (λ_=>by simp [CD,A1]) l
section
variable {l:List Nat} {K:List AV->Prop}
theorem Z8 {n:Nat} (hD:AY l) (hn:n<l.length) (h : ∀ e,l[n]? = some e->e<4294967296->K (AL e)):AX (l.map AL) (n:Int) 1 K :=
 Qo hn (λ_=>rfl) λ e he=>h e he (hD.at he)
theorem QF {a:Int} (hD:AY l) (hn:0<=a/\a<l.length) (h : ∀ e,l[a.toNat]? = some e->e<4294967296->K (AL e)):AX (l.map AL) a 1 K :=
 eD hn (λ_=>rfl) λ e he=>h e he (hD.at he)
theorem nD {i:Nat} (hD:AY l) (hi:i<l.length) (h : ∀ e,l[i]? = some e->e<4294967296->K (AL e)):BF (l.map AL) (0+((i:Int)).toNat) 0 1 K :=
 FB (f:=AL) hi (λ_=>rfl) λ e he=>h e he (hD.at he)
theorem RS {i:Int} (hD:AY l) (hi:0<=i/\i<l.length) (h : ∀ e,l[i.toNat]? = some e->e<4294967296->K (AL e)):BF (l.map AL) (0+i.toNat) 0 1 K :=
 Rn (f:=AL) hi (λ_=>rfl) λ e he=>h e he (hD.at he)
theorem EY {i v:Nat} {KK:List (List AV)->Prop} (hi:i<l.length) (h:KK ((l.set i v).map AL)):BD (l.map AL) (0+((i:Int)).toNat) 0 [.int .u32 (v:Int)] KK:=F3 (enc:=AL) v rfl (λ_=>rfl) hi h
theorem aC {i v:Nat} {KK:List (List AV)->Prop} (n:Nat) (hn:i=n) (hi:n<l.length) (h:KK ((l.set n v).map AL)):BD (l.map AL) i 0 [.int .u32 (v:Int)] KK:=aB (enc:=AL) n v hn rfl (λ_=>rfl) hi h
end
end Go.e8
namespace Go.e8
variable {L:Lib}
theorem Ev.xE {f:Nat} {fn:AFn} {vs:List AV} {P:AV->Prop} (hL:L f=some fn) (hp:Nat.beq vs.length fn.bm=true) (hd:IX vs=true) (h:AA L [.code fn.body] (CB 0 vs) [] (λ tm M => ∃ r,OA fn r tm M/\P r)) (hs:fn.ot=false:=by rfl) : ∃ r,Ev L f vs r/\P r:=by
 obtain ⟨n,c,l9,hr,σ,tm,M,hR,r,hq,hP⟩:=h (λ_ _=>(0,0)) ⟨CB 0 vs,AH.emp⟩ ⟨λ j=>Or.inr (by rw[JF];exact YC hd j),⟨(λ_ _ _ e=>by cases e),(λ_ _ _ e=>by simp [c4,c8]at e),(λ_ _ _ e=>by simp [c4,c8]at e),(λ_ _ _ _ _ _ e=>by simp [c4,c8]at e),(λ_ _ _ e=>by simp [c4,c8]at e)⟩⟩;exact ⟨r,Ev.fwd hL (BI.1 hp) ⟨n,c,l9,hr,nK hR hq⟩ hs,hP⟩
def W8:DG->Bool
 | .w9 .. | .box .. | .alloc .. | .c9 .. | .st .. | .mk .. | .app .. | .e9 .. | .n8 .. | .nv .. | .u9 .. | .cq .. => false
 | _=>true
def HK:A9->Bool
 | .skip=>true
 | .ops l _=>l.all λ a=>W8 a.op
 | .dr c _ ss=>HK c&&ss.isEmpty
 | .scope c=>HK c
 | .seq a b=>HK a&&HK b
 | .cond _ a b=>HK a&&HK b
 | .block _ c=>HK c
 | .loop c=>HK c
 | .exit _=>true
 | .ret=>true
def PQ:It->Bool
 | .code c=>HK c
 | .kf _ ss=>ss.isEmpty
 | .e7 _=>true
 | .lp c=>HK c
theorem Yh {C:Cl} {c7:List Nat} {ρ:AR->AV} {own:AH} {op:DG} {E:B3} (ho:W8 op=true) (h:g6 C c7 ρ own op=some E) : ∃ v,E = .val v:=by
 cases op<;>first|(simp [W8]at ho;done)|skip
 all_goals simp only[g6]at h
 all_goals
  first
   | (simp only[Option.some.injEq]at h;exact ⟨_,h.symm⟩)
   | (simp only[Option.map_eq_some_iff]at h;obtain ⟨_,_,rfl⟩:=h;exact ⟨_,rfl⟩)
   | skip
 all_goals (repeat' split at h)
 all_goals
  first
   | (cases h;done)
   | (simp only[Option.some.injEq]at h;exact ⟨_,h.symm⟩)
   | (simp only[Option.map_eq_some_iff]at h;obtain ⟨_,_,rfl⟩:=h;exact ⟨_,rfl⟩)
theorem Aig {C:Cl} {a:AI} (ho:W8 a.op=true) {s s':St} (h:CO C a s=some s'):s'.own=s.own:=by
 unfold CO at h;split at h
 ·cases he:g6 C a.c7 s.ev s.own a.op with
  | none=>rw[he]at h;cases h
  | some E =>
   rw[he]at h;obtain ⟨v,rfl⟩:=Yh ho he;simp only[Option.map_some,Option.some.injEq]at h;subst h;simp only[St.app];cases a.dst<;>rfl
 ·simp only[Option.some.injEq]at h
  subst h;cases a.dst<;>rfl
 ·cases h
theorem yP {C:Cl} : ∀ {l:List AI},(l.all λ a=>W8 a.op)=true -> ∀ {s s':St},CU C l s=some s'->s'.own=s.own
 | [],_,s,s',h=>by simp only[CU,Option.some.injEq]at h;rw[h]
 | a::l,ho,s,s',h=>by
  simp only[List.all_cons,Bool.and_eq_true]at ho;simp only[CU]at h;cases h1:CO C a s with
  | none=>rw[h1]at h;cases h
  | some s1 =>
   rw[h1]at h;rw[yP ho.2 h,Aig ho.1 h1]
theorem YR {id:Nat} : ∀ {k k':List It},k.all PQ=true->DC id k=some k'->k'.all PQ=true
 | [],_,_,h=>by simp [DC]at h
 | it::k,k',hk,h=>by
  simp only[List.all_cons,Bool.and_eq_true]at hk;cases it with
  | e7 i =>
   simp only[DC]at h;split at h
   ·cases h;exact hk.2
   ·exact YR hk.2 h
  | code c=>simp only[DC]at h;exact YR hk.2 h
  | kf a b=>simp only[DC]at h;exact YR hk.2 h
  | lp c=>simp only[DC]at h;exact YR hk.2 h
theorem H1 {C:Cl} : ∀ (n:Nat) {k:List It},k.all PQ=true -> ∀ {s s':St},run C n k s=some s'->s'.own=s.own
 | 0,k,_,s,s',h=>by simp [run]at h
 | n+1,[],_,s,s',h=>by
  simp only[run,Option.some.injEq]at h;rw[h]
 | n+1,it::k,hk,s,s',h=>by
  have ik:=hk;simp only[List.all_cons,Bool.and_eq_true]at hk;obtain ⟨hi,hk⟩:=hk;cases it with
  | e7 _=>simp only[run]at h;exact H1 n hk h
  | kf ts ss =>
   have:ss=[]:=by simpa [PQ] using hi
   subst this;simp only[run]at h;rw[H1 n hk h];rfl
  | lp c=>simp only[run]at h;exact H1 n (by simp only[List.all_cons,Bool.and_eq_true];exact ⟨hi,hi,hk⟩) h
  | code c =>
   cases c with
   | skip=>simp only[run]at h;exact H1 n hk h
   | ops l d =>
    simp only[run]at h;cases h1:CU C l s with
    | none=>rw[h1]at h;cases h
    | some s1 =>
     rw[h1]at h;rw[H1 n hk h,yP (show (l.all λ a=>W8 a.op)=true from hi) h1]
   | dr c ts ss =>
    simp only[run]at h;simp only[PQ,HK,Bool.and_eq_true]at hi;exact H1 n (by simp only[List.all_cons,Bool.and_eq_true];exact ⟨hi.1,hi.2,hk⟩) h
   | scope c=>simp only[run]at h;exact H1 n (by simp only[List.all_cons,Bool.and_eq_true];exact ⟨hi,hk⟩) h
   | seq a b =>
    simp only[run]at h;simp only[PQ,HK,Bool.and_eq_true]at hi;exact H1 n (by simp only[List.all_cons,Bool.and_eq_true];exact ⟨hi.1,hi.2,hk⟩) h
   | cond x a b =>
    simp only[PQ,HK,Bool.and_eq_true]at hi;simp only[run]at h;split at h
    ·exact H1 n (by simp only[List.all_cons,Bool.and_eq_true];exact ⟨hi.1,hk⟩) h
    ·exact H1 n (by simp only[List.all_cons,Bool.and_eq_true];exact ⟨hi.2,hk⟩) h
    ·cases h
   | block id c=>simp only[run]at h;exact H1 n (by simp only[List.all_cons,Bool.and_eq_true];exact ⟨hi,rfl,hk⟩) h
   | loop c=>simp only[run]at h;exact H1 n (by simp only[List.all_cons,Bool.and_eq_true];exact ⟨hi,hi,hk⟩) h
   | exit id =>
    simp only[run]at h;split at h
    ·rename_i k' he
     exact H1 n (YR hk he) h
    ·cases h
   | ret =>
    simp only[run,Option.some.injEq]at h;rw[h]
def Ue (fn:AFn) (r:AV) (tm:Tm) (_M:Mem):Prop := ∃ rs,Q3 tm fn.res=some rs/\HB rs=r
def aV:AV->Bool
 | .l6 vs=>IX vs
 | v=>QI v
theorem pV {σ:FC} {v:AV} (h:aV v=true):BC σ v=v:=by
 cases v with
 | l6 vs =>
  simp only[BC];congr 1;simp only[aV]at h;induction vs with
  | nil=>rfl
  | cons v r ih =>
   simp only[IX]at h;cases hv:QI v<;>simp only[hv,cond_true,cond_false]at h
   ·cases h
   ·rw[List.map_cons,ih h]
    congr 1;cases v<;>first|rfl|(simp [QI,tc]at hv;done)|skip
    rename_i cs;exact aU (σ:=σ) (v := .agg cs) hv
 | _=>exact aU (σ:=σ) h
def XY (L:Lib) (f:Nat) (vs:List AV) (r:AV):Prop:=aV r=true/\(∀ σ:FC,vs.map (BC σ)=vs) /\ ∀ own:AH,FZ L f vs own r own
theorem pT {σ:FC} : ∀ {vs:List AV},IX vs=true->vs.map (BC σ)=vs
 | [],_=>rfl
 | v::r,h=>by
  simp only[IX]at h;cases hv:QI v<;>simp only[hv,cond_true,cond_false]at h
  ·cases h
  ·rw[List.map_cons,aU hv,pT h]
theorem Ug {f:Nat} {fn:AFn} {vs:List AV} {r:AV} (hL:L f=some fn) (hp:Nat.beq vs.length fn.bm=true) (hd:IX vs=true) (Fp:HK fn.body=true) (m9:ZF 100000 fn.res=true) (hr:aV r=true) (h:AA L [.code fn.body] (CB 0 vs) [] (Ue fn r)):XY L f vs r:=by
 refine ⟨hr,λ σ=>pT hd,λ own => ?_⟩;obtain ⟨n,c,l9,u4,σ,tm,M,hR,rs,Cu,he⟩:=h (λ_ _=>(0,0)) ⟨CB 0 vs,own⟩ ⟨λ j=>Or.inr (by rw[JF];exact YC hd j),⟨(λ_ _ _ e=>by cases e),(λ_ _ _ e=>by simp [c4,c8]at e),(λ_ _ _ e=>by simp [c4,c8]at e),(λ_ _ _ _ _ _ e=>by simp [c4,c8]at e),(λ_ _ _ e=>by simp [c4,c8]at e)⟩⟩;have ho:=H1 n (by simp [PQ,Fp]) u4;obtain ⟨i1,i2⟩:=kO (N:=100000) (s:=l9) hR (λ_ _=>rfl) m9 Cu;refine FZ.intro hL (BI.1 hp) ⟨n,c,l9,u4,?_,ho⟩;rw[i1,Option.map_some,wZ i2,he,pV hr]
theorem JK {f:Nat} {vs:List AV} {r:AV} {tm:Tm} {M:Mem} {K:AV->Mem->Prop} (h:XY L f vs r) (hk:K r M):A7 L f vs tm M K:=by
 intro σ own hs;refine ⟨r,own,σ,M,?_,hs,λ_=>rfl,hk⟩;rw[h.2.1 σ,pV h.1];exact h.2.2 own
end Go.e8

namespace Go.e8
variable {L:Lib}
def RU (fn:AFn) (z:Nat) (es:List (List AV)) (tm:Tm) (M:Mem):Prop:=match fn.res with
 | [.tmp t]=>match tg tm t with
  | .row k 0 z' 0 n=>match c8 M k with
   | some (_,.rw ek es')=>z'=z/\ek=z/\n=es.length/\es'=es/\FL es
   | _=>False
  | _=>False
 | _=>False
theorem JL.x {f:Nat} {fn:AFn} {vs:List AV} {z:Nat} {es:List (List AV)} (hL:L f=some fn) (hp:Nat.beq vs.length fn.bm=true) (hd:IX vs=true) (h:AA L [.code fn.body] (CB 0 vs) [] (RU fn z es)):JL L f vs z es:=by
 obtain ⟨n,c,l9,hr,σ,tm,M,hR,hq⟩:=h (λ_ _=>(0,0)) ⟨CB 0 vs,AH.emp⟩ ⟨λ j=>Or.inr (by rw[JF];exact YC hd j),⟨(λ_ _ _ e=>by cases e),(λ_ _ _ e=>by simp [c4,c8]at e),(λ_ _ _ e=>by simp [c4,c8]at e),(λ_ _ _ _ _ _ e=>by simp [c4,c8]at e),(λ_ _ _ e=>by simp [c4,c8]at e)⟩⟩;unfold RU at hq;split at hq
 ·rename_i t lu
  split at hq
  ·rename_i k z' m Hm
   split at hq
   ·rename_i s ek es' hM
    obtain ⟨rfl,rfl,rfl,rfl,q6⟩:=hq;have hv:g7 l9.tm t = .row (σ k 0).1 (σ k 0).2 ek 0 es'.length:=by
     rcases hR.tm t with e|e
     ·rw[Hm]at e;cases e
     ·rw[e,Hm];rfl
    have hb:=hR.sat.e7 k 0 (.rw ek es') (by simp only[c4,hM]);obtain ⟨q,hq⟩:=FZ.intro (r := .row (σ k 0).1 (σ k 0).2 ek 0 es'.length) (o':=l9.own) hL (BI.1 hp) ⟨n,c,l9,hr,by simp [lu,EV,hv,HZ,HB],rfl⟩;refine ⟨q,?_⟩;simp only[hq,OE,AH.get,hb];rw[if_pos (show (A3.e7 σ k (.rw ek es')).es.length=es'.length/\FL (A3.e7 σ k (.rw ek es')).es from ⟨rfl,q6⟩)];rfl
   ·exact hq.elim
  ·exact hq.elim
 ·exact hq.elim
theorem Ry {Q:Tm->Mem->Prop} {c:A9} {k:List It} {tm:Tm} {M:Mem} (n:Nat) (h:fT (vn 0 tm) λ tm=>WX M λ M=>XK L Q n (.code c::k) tm M):AA L (.code c::k) tm M Q:=by
 rw[WO,bY]at h;exact mP (eH h)
theorem VU {α:Type} {enc:α->List AV} {l:List α} {f z:Nat} {vs:List AV} {K:Nat->List (List AV)->Nat->Prop} (n:Nat) (h:JL L f vs z (l.map enc)) (hn:n=l.length) (hk:K z (l.map enc) n):DW L f vs K:=⟨z,_,n,h,by simpa using hn,hk⟩
end Go.e8

namespace Go.e8
theorem zX {A w C:List Nat} {i n:Nat} (hi:i=A.length+n) (hn:n<w.length):(A++w++C)[i]? = w[n]? := by
 subst hi;rw[List.append_assoc,List.getElem?_append_right (by omega),Nat.add_sub_cancel_left,List.getElem?_append_left hn]
theorem AiH {A w C:List Nat} {i n v:Nat} (hi:i=A.length+n) (hn:n<w.length):(A++w++C).set i v=A++w.set n v++C:=by
 subst hi;rw[List.append_assoc,List.set_append_right _ _ (by omega),Nat.add_sub_cancel_left,List.set_append_left _ _ hn,List.append_assoc]
theorem OD {A w C:List Nat} {i v:Nat} {KK:List (List AV)->Prop} (n:Nat) (hi:i=A.length+n) (hn:n<w.length) (h:KK ((A++w.set n v++C).map AL)):BD ((A++w++C).map AL) i 0 [.int .u32 (v:Int)] KK:=by
 have hl:i<(A++w++C).length:=by simp;omega
 refine aB (enc:=AL) i v rfl rfl (λ_=>rfl) hl ?_;rw[AiH hi hn];exact h
theorem Agn {W X Vi p q u d c b pr t:Nat} (h:W+q*Vi=X+p*(c+b)) (si:pr=q*d+c) (ht:t=D7 (D7 u (pr%4294967296)) b) (hu:u<4294967296) (hb:b<=1) :
  W+p*(t%4294967296)+q*(Vi+p*d)=X+p*u+p*4294967296*(pr/4294967296+t/9223372036854775808):=by
 obtain ⟨h1,_⟩:=dM hu (show pr%4294967296<4294967296 by omega) hb;rw[<-ht]at h1;have h2:=Nat.mod_add_div pr 4294967296;generalize t%4294967296=w at *;generalize t/9223372036854775808=b' at *;generalize pr%4294967296=pl at *;generalize pr/4294967296=ph at *;have e1:p*(w+pl+b)=p*(u+4294967296*b'):=by rw[h1]
 have e2:p*(pl+4294967296*ph)=p*(q*d+c):=by rw[h2,si]
 grind
theorem vJ {q d c pr:Nat} (hq:q<4294967296) (hd:d<4294967296) (hc:c<4294967296) (si:pr=q*d+c):pr/4294967296<4294967296/\pr<=18446744073709551615/\q*d<=18446744065119617025:=by
 have:=W2 hq hd
 omega
theorem Agl {W X V p q u c b t:Nat} (h:W+q*V=X+p*(c+b)) (ht:t=D7 (D7 u c) b) (hu:u<4294967296) (hc:c<4294967296) (hb:b<=1) :
  W+p*(t%4294967296)+q*V=X+p*u+p*4294967296*(t/9223372036854775808):=by
 obtain ⟨h1,_⟩:=dM hu hc hb;rw[<-ht]at h1;generalize t%4294967296=w at *;generalize t/9223372036854775808=b' at *;have e1:p*(w+c+b)=p*(u+4294967296*b'):=by rw[h1]
 grind
theorem Ago {W X Vi p q u d c b pr w take have' df:Nat} (h:W+q*Vi=X+p*(c+b)) (si:pr=c+q*d) (h1:take=pr%4294967296+b) (h2:(have'=u/\df=0/\take<=u)\/(have'=u+4294967296/\df=1/\u<take)) (h3:w+take=have') :
  W+p*w+q*(Vi+p*d)=X+p*u+p*4294967296*(pr/4294967296+df):=by
 have h4:=Nat.mod_add_div pr 4294967296;have h5:w+pr%4294967296+b=u+4294967296*df:=by omega
 generalize pr%4294967296=pl at *;generalize pr/4294967296=ph at *;have e1:p*(w+pl+b)=p*(u+4294967296*df):=by rw[h5]
 have e2:p*(pl+4294967296*ph)=p*(c+q*d):=by rw[h4,si]
 grind
theorem Agm {W X V p q u c b w take have' df:Nat} (h:W+q*V=X+p*(c+b)) (h1:take=c+b) (h2:(have'=u/\df=0/\take<=u)\/(have'=u+4294967296/\df=1/\u<take)) (h3:w+take=have') :
  W+p*w+q*V=X+p*u+p*4294967296*df:=by
 have h5:w+c+b=u+4294967296*df:=by omega
 have e1:p*(w+c+b)=p*(u+4294967296*df):=by rw[h5]
 grind
theorem nP {W X Vi p w d c t:Nat} (h:W+p*c=X+Vi) (ht:t=w+d+c):W+p*(t%4294967296)+p*4294967296*(t/4294967296)=X+p*w+(Vi+p*d):=by
 have h1:=PJ W p t;have e:p*t=p*w+p*d+p*c:=by rw[ht];grind
 omega
theorem nN {W X V R p w c:Nat} (h:W+p*c=X+V) (hX:X+p*w+V=R+p*4294967296) (hR:R<p*4294967296) (hW:W<p):W+p*((w+c)%4294967296)=R:=by
 have h1:W+p*(w+c)=R+p*4294967296:=by
  rw[Nat.mul_add];omega
 have h2:=Nat.mod_add_div (w+c) 4294967296;have h3:p*(w+c)=p*((w+c)%4294967296)+p*4294967296*((w+c)/4294967296):=by
  rw[Nat.mul_assoc,<-Nat.mul_add,h2]
 have h4:(w+c)%4294967296<4294967296:=Nat.mod_lt _ (by omega);generalize (w+c)%4294967296=m at *;generalize (w+c)/4294967296=k at *;have h5:W+p*m<p*4294967296:=by
  have:p*m+p<=p*4294967296:=by rw[<-Nat.mul_succ];exact Nat.mul_le_mul_left p (by omega)
  omega
 have h6:k=1:=by
  rcases Nat.lt_trichotomy k 1 with hk|hk|hk
  ·have:k=0:=by omega
   subst this;omega
  ·exact hk
  ·have:p*4294967296*2<=p*4294967296*k:=Nat.mul_le_mul_left _ (by omega)
   omega
 subst h6;omega
theorem Ait {U V UL VL p u2 v2 v1 top:Nat} (hU:U=UL+p*(u2+4294967296*top)) (hV:V=VL+p*(v2+4294967296*v1)) (Ak:VL<p) (h2:v2<4294967296) (h:U<4294967296*V):top<4294967296*(v1+1):=by
 have h3:V<p*(4294967296*(v1+1)):=by
  have:p*(v2+4294967296*v1)+p<=p*(4294967296*(v1+1)):=by
   rw[<-Nat.mul_succ];exact Nat.mul_le_mul_left p (by omega)
  omega
 have h4:p*(4294967296*top)<=U:=by
  have:p*(4294967296*top)<=p*(u2+4294967296*top):=Nat.mul_le_mul_left p (by omega)
  omega
 have h5:p*(4294967296*top)<p*(4294967296*(4294967296*(v1+1))):=by
  have:p*(4294967296*(4294967296*(v1+1)))=4294967296*(p*(4294967296*(v1+1))):=by grind
  omega
 have:=Nat.lt_of_mul_lt_mul_left h5
 omega
structure Gs (U V v1 v2 u2 top q r:Nat):Prop where
 hq:q*v1+r=top
 hr:r<4294967296
 ge:U/V<=q
theorem Gs.next {U V UL VL p v1 v2 u2 top q r:Nat} (g:Gs U V v1 v2 u2 top q r) (hU:U=UL+p*(u2+4294967296*top)) (hV:V=VL+p*(v2+4294967296*v1)) (tv:UL<p) (bh:0<V) (Gu:U<4294967296*V)
  (h:4294967296<=q\/r*4294967296+u2<q*v2):1<=q/\(q-1)*v1+(r+v1)=top/\U/V<=q-1:=by
 have h1:U/V<q:=by
  rcases h with h|h
  ·exact AeY Gu h bh
  ·exact AeZ hU hV tv g.hq h bh
 have hq:=g.hq;clear h g hU hV Gu;generalize U/V=Q at *;obtain ⟨k,rfl⟩ : ∃ k,q=k+1:=⟨q-1,by omega⟩;refine ⟨by omega,?_,by omega⟩;rw[Nat.add_sub_cancel,<-hq,Nat.add_mul];omega
theorem Gs.start {U V UL VL p v1 v2 u2 top:Nat} (hU:U=UL+p*(u2+4294967296*top)) (hV:V=VL+p*(v2+4294967296*v1)) (tv:UL<p) (h2:u2<4294967296) (bh:0<V) (h1:0<v1) (h1b:v1<4294967296):Gs U V v1 v2 u2 top (top/v1) (top%v1):=by
 refine ⟨by rw[Nat.mul_comm];exact Nat.div_add_mod _ _,?_,?_⟩
 ·have:=Nat.mod_lt top h1
  omega
 ·rw[Nat.le_div_iff_mul_le h1]
  exact Zw hU hV tv h2 bh
theorem WP {U V UL VL p v1 v2 u2 top q r:Nat} (hU:U=UL+p*(u2+4294967296*top)) (hV:V=VL+p*(v2+4294967296*v1)) (Ak:VL<p) (Hn:2147483648<=v1) (Ho:v2<4294967296) (Gu:U<4294967296*V) (hq:q*v1+r=top)
  (h:(q<4294967296/\q*v2<=r*4294967296+u2)\/4294967296<=r):q<4294967296/\q<=U/V+1:=by
 rcases h with ⟨h1,h2⟩|h
 ·exact ⟨h1,tJ hU hV Ak Hn hq h2 h1⟩
 ·have ht:=Ait hU hV Ak Ho Gu
  have xv:q<4294967296:=by
   have h3:q*v1<4294967296*v1:=by omega
   exact Nat.lt_of_mul_lt_mul_right h3
  refine ⟨xv,tJ hU hV Ak Hn hq ?_ xv⟩;have:=W2 xv Ho
  omega
theorem VP (a:List Nat) (k:Nat):val a=val (a.take k)+4294967296^k*val (a.drop k):=by
 rcases Nat.lt_or_ge a.length k with h|h
 ·rw[zT (by omega),List.drop_of_length_le (by omega),H8];omega
 ·exact JH a k h
theorem VO (a:List Nat) (k:Nat):val (a.drop k)=a.getD k 0+4294967296*val (a.drop (k+1)):=by
 rcases Nat.lt_or_ge k a.length with h|h
 ·rw[GM (zE h),List.getD_eq_getElem?_getD,zE h];rfl
 ·rw[List.drop_of_length_le h,List.drop_of_length_le (by omega),List.getD_eq_getElem?_getD,List.getElem?_eq_none h];rfl
theorem QP {a:List Nat} (h:AY a) (k:Nat):a.getD k 0<4294967296:=by
 rw[List.getD_eq_getElem?_getD];cases e:a[k]? with
 | none=>simp
 | some d=>simpa using h.at e
theorem getD_some {a:List Nat} {k d:Nat} (h:a[k]? = some d):d=a.getD k 0:=by rw[List.getD_eq_getElem?_getD,h];rfl
theorem QQ {a:List Nat} {k:Nat} (h:a.length<=k):0=a.getD k 0:=by rw[List.getD_eq_getElem?_getD,List.getElem?_eq_none h];rfl
theorem dR {a:List Nat} (hD:AY a) {n:Nat} (hn:3<=n) (hl:a.length<=n) : ∃ r,r<4294967296^(n-3)/\val a=r+4294967296^(n-3)*(a.getD (n-3) 0+4294967296*(a.getD (n-2) 0+4294967296*a.getD (n-1) 0)):=by
 refine ⟨val (a.take (n-3)),?_,?_⟩
 ·refine Nat.lt_of_lt_of_le (EQ (hD.take _)) (Nat.pow_le_pow_right (by omega) ?_)
  rw[List.length_take];omega
 ·have h1:=VP a (n-3)
  have h2:=VO a (n-3);have h3:=VO a (n-3+1);have h4:=VO a (n-3+1+1);rw[List.drop_of_length_le (show a.length<=n-3+1+1+1 by omega),H8]at h4;rw[show n-3+1=n-2 by omega]at *;rw[show n-2+1=n-1 by omega]at *;rw[h4,Nat.mul_zero,Nat.add_zero]at h3;rw[h3]at h2;rw[h2]at h1;exact h1
theorem zQ {a:List Nat} (hD:AY a) {n:Nat} (hn:2<=n) (hl:a.length<=n) : ∃ r,r<4294967296^(n-2)/\val a=r+4294967296^(n-2)*(a.getD (n-2) 0+4294967296*a.getD (n-1) 0):=by
 refine ⟨val (a.take (n-2)),?_,?_⟩
 ·refine Nat.lt_of_lt_of_le (EQ (hD.take _)) (Nat.pow_le_pow_right (by omega) ?_)
  rw[List.length_take];omega
 ·have h1:=VP a (n-2)
  have h2:=VO a (n-2);have h3:=VO a (n-2+1);rw[List.drop_of_length_le (show a.length<=n-2+1+1 by omega),H8]at h3;rw[show n-2+1=n-1 by omega]at *;rw[h3,Nat.mul_zero,Nat.add_zero]at h2;rw[h2]at h1;exact h1
theorem QJ {a b:Nat} (h:a<=b):(dg a).length<=(dg b).length:=by
 rcases Nat.lt_or_ge (dg b).length (dg a).length with h1|h1
 ·have:=XN h1;omega
 ·exact h1
theorem gB {p:Nat} (h:p<18446744073709551616):val [p%4294967296,p/4294967296]=p/\AY [p%4294967296,p/4294967296]:=by
 refine ⟨by simp [val];omega,λ x hx => ?_⟩;simp at hx;omega
theorem F5 {a:List Nat} {k d:Nat} (h:a[k]? = some d):a.getD k 0=d:=(getD_some h).symm
theorem jK {y:List Nat} {s yt:Nat} (hD:AY y) (yf:y[y.length-1]? = some yt) (hl:1<=y.length) (hs:s<=31) (b3:2147483648<=yt*2^s) (b4:yt*2^s<4294967296):val y*2^s<4294967296^y.length/\4294967296^(y.length-1)*2147483648<=val y*2^s:=by
 have h1:=JH y (y.length-1) (by omega);have h2:=GM yf;rw[List.drop_of_length_le (show y.length<=y.length-1+1 by omega),H8,Nat.mul_zero,Nat.add_zero]at h2;rw[h2]at h1;have h3:=EQ (hD.take (y.length-1));rw[List.length_take,Nat.min_eq_left (by omega)]at h3;have e:4294967296^y.length=4294967296^(y.length-1)*4294967296:=by rw[<-Nat.pow_succ,Nat.succ_eq_add_one,show y.length-1+1=y.length by omega]
 rw[e];generalize 4294967296^(y.length-1)=p at *;have hk:(yt+1)*2^s<=4294967296:=by
  have e2:4294967296=2^s*2^(32-s):=by rw[<-Nat.pow_add,show s+(32-s)=32 by omega]
  rw[e2,Nat.mul_comm]at b4;have:=Nat.lt_of_mul_lt_mul_left b4
  rw[e2,Nat.mul_comm];exact Nat.mul_le_mul_left _ this
 have h4:val y+1<=p*(yt+1):=by rw[Nat.mul_add];omega
 have h5:=zR (2^s) h4;have h6:p*((yt+1)*2^s)<=p*4294967296:=Nat.mul_le_mul_left p hk;rw[<-Nat.mul_assoc]at h6;have h7:p*2147483648<=p*(yt*2^s):=Nat.mul_le_mul_left p b3;have h8:p*(yt*2^s)<=val y*2^s:=by rw[<-Nat.mul_assoc];exact zR _ (by omega)
 have h9:=Nat.two_pow_pos s;rw[Nat.add_mul]at h5;exact ⟨by omega,by omega⟩
theorem zA {v:List Nat} {k c d:Nat} (hD:AY v) (hl:v.length=k+1) (h:4294967296^k*c<=val v) (hd:v[k]? = some d):c<=d:=by
 have h1:=JH v k (by omega);have h2:=GM hd;rw[List.drop_of_length_le (show v.length<=k+1 by omega),H8,Nat.mul_zero,Nat.add_zero]at h2;rw[h2]at h1;have h3:=EQ (hD.take k);rw[List.length_take,Nat.min_eq_left (by omega)]at h3;generalize 4294967296^k=p at *;have h4:p*c<p*(d+1):=by rw[Nat.mul_add];omega
 have:=Nat.lt_of_mul_lt_mul_left h4
 omega
theorem qR (o:List Nat) (j n:Nat) (h:j+n<=o.length) : ∃ A W C,A.length=j/\W.length=n/\o=A++W++C:=by
 refine ⟨o.take j,(o.drop j).take n,(o.drop j).drop n,by simp;omega,by simp;omega,?_⟩;rw[List.append_assoc,List.take_append_drop,List.take_append_drop]
theorem pY {A W C:List Nat} (h:AY (A++W++C)):AY A/\AY W/\AY C:=by
 refine ⟨λ x hx=>h x (by simp [hx]),λ x hx=>h x (by simp [hx]),λ x hx=>h x (by simp [hx])⟩
theorem qT {A W C:List Nat} {j l V:Nat} (hA:A.length=j) (hW:W.length=l+1) (hD:AY (A++W++C)) (h:val ((A++W++C).drop (j+1))<V) (hV:V<4294967296^l) :
  val C=0/\val W<4294967296*V/\val ((A++W++C).take (j+1))+4294967296^(j+1)*val ((A++W++C).drop (j+1))=val A+4294967296^j*val W:=by
 have h1:=VP (A++W++C) (j+1);have h2:val (A++W++C)=val A+4294967296^j*(val W+4294967296^(l+1)*val C):=by
  rw[List.append_assoc,XM,XM,hA,hW]
 have h3:=VO (A++W++C) j;have h4:(A++W++C).drop j=W++C:=by
  rw[List.append_assoc,List.drop_append_of_le_length (by omega),List.drop_of_length_le (by omega)];rfl
 have h5:=QP hD j;rw[h4,XM,hW]at h3;rw[Nat.pow_succ]at h3;have h6:val C=0:=by
  rcases Nat.eq_zero_or_pos (val C) with h0|h0
  ·exact h0
  ·have:4294967296^l*4294967296*1<=4294967296^l*4294967296*val C:=Nat.mul_le_mul_left _ h0
   omega
 rw[h6,Nat.mul_zero,Nat.add_zero]at h3;refine ⟨h6,by omega,?_⟩;rw[<-h1,h2,h6,Nat.mul_zero,Nat.add_zero]
theorem gO {A W C:List Nat} {j:Nat} (hA:A.length=j) (hC:val C=0):val ((A++W++C).drop j)=val W/\val ((A++W++C).take j)=val A:=by
 rw[List.append_assoc,List.drop_append_of_le_length (by omega),List.drop_of_length_le (by omega),List.take_append_of_le_length (by omega),zT (by omega),List.nil_append,XM,hC];simp
theorem qS {U VA P Q q V W R:Nat} (h:U=VA+P*W+P*4294967296*(Q*V)) (h2:W=q*V+R):U=VA+P*((q+4294967296*Q)*V+R):=by
 rw[h,h2];grind
section
variable {a b:Nat} {K:AV->Prop}
theorem nG (n:Nat) (hx:a%2^n=0) (hy:b<2^n) (h:a+b<=18446744073709551615) (hk:K (.int .u64 ((a+b:Nat):Int))):AE .or .u64 (a:Int) .u64 (b:Int) K :=
 eA n hx hy (show a+b<18446744073709551616 by omega) (IntWalk.u64_in _ (by omega)) hk
theorem Z4 (n:Nat) (hx:b%2^n=0) (hy:a<2^n) (h:a+b<=18446744073709551615) (hk:K (.int .u64 ((a+b:Nat):Int))):AE .or .u64 (a:Int) .u64 (b:Int) K:=by
 have e:C3 .or .u64 (a:Int) .u64 (b:Int)=C3 .or .u64 (b:Int) .u64 (a:Int):=by
  simp only[C3,if_true,BitVec.or_comm]
 rw[Nat.add_comm]at hk h;have hh:=nG (K:=K) n hx hy h hk;unfold AE at hh ⊢;rw[e];exact hh
end
theorem Z3 {a:Nat} {K:AV->Prop} (h:a<=18446744069414584319) (hk:K (.int .u64 ((a+4294967296:Nat):Int))):AE .add .u64 (a:Int) .u64 4294967296 K :=
 FN (b:=4294967296) (by omega) hk
theorem IQ {l:List Nat} {i e:Nat} {K:List AV->Prop} (he:l[i]? = some e) (h:K (AL e)):BF (l.map AL) (0+((i:Int)).toNat) 0 1 K :=
 Z1 (e:=e) (by rw[Nat.zero_add,Int.toNat_natCast];exact he) rfl h
theorem Rm {l:List Nat} {i:Int} {e:Nat} {K:List AV->Prop} (he:l[i.toNat]? = some e) (h:K (AL e)):BF (l.map AL) (0+i.toNat) 0 1 K :=
 Z1 (e:=e) (by rw[Nat.zero_add];exact he) rfl h
theorem QE {A w C:List Nat} {i e:Nat} {K:List AV->Prop} (n:Nat) (he:w[n]? = some e) (hi:i=A.length+n) (h:K (AL e)):BF ((A++w++C).map AL) i 0 1 K:=by
 have hn:=(zS he).1;exact Z1 (e:=e) (by rw[zX hi hn];exact he) rfl h
end Go.e8

namespace Go.e8
def WS (n s:Nat):Nat:=4294967296^(n-3)*(2^(32-s)*4)
theorem Af2 (n s:Nat):0<WS n s:=Nat.mul_pos (Nat.pow_pos (by omega)) (Nat.mul_pos (Nat.two_pow_pos _) (by omega))
theorem uF {a:List Nat} (hD:AY a) {n s d1 d2 d3:Nat} (hn:3<=n) (hl:a.length<=n) (hs:s<=31) (h1:d1=a.getD (n-1) 0) (h2:d2=a.getD (n-2) 0) (h3:d3=a.getD (n-3) 0) :
  ((d1*4294967296+d2)*2^s+d3*2^s/4294967296)/4=val a/WS n s:=by
 obtain ⟨r,hr,hv⟩:=dR hD hn hl;rw[<-h1,<-h2,<-h3]at hv;unfold WS;rw[hv,<-Nat.div_div_eq_div_mul,Nat.add_mul_div_left _ _ (Nat.pow_pos (by omega)),Nat.div_eq_of_lt hr,Nat.zero_add,<-Nat.div_div_eq_div_mul];congr 1;have e:d3+4294967296*(d2+4294967296*d1)=d3+2^(32-s)*(2^s*(d1*4294967296+d2)):=by
  rw[<-Nat.mul_assoc,<-Nat.pow_add,show 32-s+s=32 by omega];omega
 rw[e,Nat.add_mul_div_left _ _ (Nat.two_pow_pos _)];have:=xN (d:=d3) (s:=s) (by omega)
 rw[VG]at this;rw[this,Nat.mul_comm (2^s)];omega
theorem uG {a:List Nat} (hD:AY a) {n s d1 d2:Nat} (hn:3<=n) (hl:a.length<=n) (h1:d1=a.getD (n-1) 0) (h2:d2=a.getD (n-2) 0) (m9:val a*2^s<4294967296^n) :
  (d1*4294967296+d2)*2^s<=18446744073709551615:=by
 obtain ⟨r,hr,hv⟩:=dR hD hn hl;rw[<-h1,<-h2]at hv;generalize a.getD (n-3) 0=d3 at *;have e:4294967296^n=4294967296^(n-3)*(4294967296*18446744073709551616):=by
  rw[show n=n-3+3 by omega,Nat.pow_add,show n-3+3-3=n-3 by omega]
 rw[e,hv]at m9;generalize 4294967296^(n-3)=p at *;have h3:p*(4294967296*((d1*4294967296+d2)*2^s))<p*(4294967296*18446744073709551616):=by
  refine Nat.lt_of_le_of_lt ?_ m9;rw[<-Nat.mul_assoc,<-Nat.mul_assoc];refine zR _ ?_;have h5:p*(4294967296*(d2+4294967296*d1))<=p*(d3+4294967296*(d2+4294967296*d1)):=Nat.mul_le_mul_left p (by omega);rw[Nat.mul_assoc,show d1*4294967296+d2=d2+4294967296*d1 by omega];omega
 have:=Nat.lt_of_mul_lt_mul_left (Nat.lt_of_mul_lt_mul_left h3)
 omega
theorem cE {k s:Nat} (hs:s<=64) (h:k*2^s<=18446744073709551615):k*2^s+2^s<=18446744073709551616:=by
 have e:18446744073709551616=2^(64-s)*2^s:=by rw[<-Nat.pow_add,show 64-s+s=64 by omega]
 have h1:k<2^(64-s):=by
  refine Nat.lt_of_mul_lt_mul_right (a:=2^s) ?_;rw[<-e];omega
 have h2:=zR (2^s) h1;rw[Nat.succ_mul,<-e]at h2;exact h2
theorem uH {a:List Nat} (hD:AY a) {n s:Nat} (hn:3<=n) (hl:a.length<=n) (hs:s<=31) (m9:val a*2^s<4294967296^n):val a/WS n s<=4611686018427387904:=by
 rw[<-uF hD hn hl hs rfl rfl rfl];have h1:=uG hD hn hl rfl rfl m9;have b3:=QP hD (n-3);have h2:=cE (show s<=64 by omega) h1;obtain ⟨_,h3,_,_⟩:=VH (s:=s) b3 (by omega);rw[VG]at h3;generalize (a.getD (n-1) 0*4294967296+a.getD (n-2) 0)*2^s=T at *;generalize a.getD (n-3) 0*2^s=U at *;omega
theorem uI {V K:Nat} (hK:0<K) : ∃ e:Int,(V:Int)=(K:Int)*((V/K:Nat):Int)+e/\0<=e/\e<=K:=by
 refine ⟨((V%K:Nat):Int),?_,by omega,?_⟩
 ·have:=Nat.div_add_mod V K
  have h2:((K*(V/K)+V%K:Nat):Int)=(V:Int):=by rw[this]
  rw[<-h2];simp
 ·have:=Nat.mod_lt V hK
  omega
def YA (t:Int):Nat:=(t%4294967296).toNat
theorem oZ (t:Int):YA t<4294967296:=by unfold YA;omega
theorem fP (t:Int):(YA t:Int)=t%4294967296:=by unfold YA;omega
def QD (f g:Int):Prop:=(0<=f/\f<=2147483647 /\ -2147483647<=g/\g<=0)\/(-2147483647<=f/\f<=0/\0<=g/\g<=2147483647)
theorem xM {f:Int} {d:Nat} (hd:d<4294967296):(0<=f->f<=2147483647->0<=f*d/\f*d<=9223372030412324865)/\(f<=0 -> -2147483647<=f->f*d<=0 /\ -9223372030412324865<=f*d):=by
 constructor
 ·intro h0 h1
  refine ⟨Int.mul_nonneg h0 (by omega),?_⟩;have:f*d<=2147483647*4294967295:=Int.mul_le_mul h1 (by omega) (by omega) (by omega)
  omega
 ·intro h0 h1
  have a1:0<=(-f)*d:=Int.mul_nonneg (by omega) (by omega);have a2:(-f)*d<=2147483647*4294967295:=Int.mul_le_mul (by omega) (by omega) (by omega) (by omega);rw[Int.neg_mul]at a1 a2;omega
theorem QD.Py {f g:Int} (h:QD f g) {d e:Nat} (hd:d<4294967296) (he:e<4294967296):(-9223372030412324865<=f*d/\f*d<=9223372030412324865)/\(-9223372030412324865<=g*e/\g*e<=9223372030412324865) /\ -9223372030412324865<=f*d+g*e/\f*d+g*e<=9223372030412324865:=by
 obtain ⟨a1,a2⟩:=xM (f:=f) hd;obtain ⟨b1,b2⟩:=xM (f:=g) he;rcases h with ⟨h1,h2,h3,h4⟩|⟨h1,h2,h3,h4⟩
 ·have:=a1 h1 h2;have:=b2 h4 h3;omega
 ·have:=a2 h2 h1;have:=b1 h3 h4;omega
theorem pA {V X Y p c f g d e t:Int} (h:V+p*c=f*X+g*Y) (ht:t=f*d+c+g*e):V+p*(t%4294967296)+p*4294967296*(t/4294967296)=f*(X+p*d)+g*(Y+p*e):=by
 have h1:=Int.emod_add_mul_ediv t 4294967296;have h2:p*(t%4294967296)+p*4294967296*(t/4294967296)=p*t:=by
  rw[Int.mul_assoc,<-Int.mul_add,h1]
 have h3:p*t=f*(p*d)+p*c+g*(p*e):=by rw[ht];grind
 have h4:f*(X+p*d)=f*X+f*(p*d):=by rw[Int.mul_add]
 have h5:g*(Y+p*e)=g*Y+g*(p*e):=by rw[Int.mul_add]
 omega
theorem Sy {V P:Nat} {c R:Int} (hV:V<P) (h:(V:Int)+P*c=R) (h0:0<=R) (h1:R<P):(V:Int)=R:=by
 have hc:c=0:=by
  rcases Int.lt_trichotomy c 0 with hc|hc|hc
  ·have:(P:Int)*c<=P*(-1):=Int.mul_le_mul_of_nonneg_left (by omega) (by omega)
   omega
  ·exact hc
  ·have:(P:Int)*1<=P*c:=Int.mul_le_mul_of_nonneg_left (by omega) (by omega)
   omega
 subst hc;omega
theorem YU (x y:Nat):Nat.gcd y (x%y)=Nat.gcd x y:=by
 rw[Nat.gcd_comm x y,Nat.gcd_rec y x];exact Nat.gcd_comm _ _
def zv (neg:Bool) (m:List Nat):Int:=bif neg then -(val m:Int) else (val m:Int)
abbrev rZ (q neg:Bool) (m:List Nat):List AV:=[.bool neg,.sl q (m.map AL)]
abbrev eZ (z:Int):List AV:=rZ false (decide (z<0)) (dg z.natAbs)
theorem EL (neg:Bool) (m:List Nat):(zv neg m).natAbs=val m:=by cases neg<;>simp [zv]
theorem ER (z:Int):zv (decide (z<0)) (dg z.natAbs)=z:=by
 unfold zv;rw[BN];by_cases h:z<0
 ·simp [h];omega
 ·simp [h];omega
def Sm (n:Nat) (m:List Nat):Prop:=AY m/\m.length<=n
theorem Sm.dg {n V:Nat} (h:V<4294967296^n):Sm n (dg V):=⟨DI V,OL.2 h⟩
theorem Sm.le {n n':Nat} {m:List Nat} (h:Sm n m) (hn:n<=n'):Sm n' m:=⟨h.1,by have:=h.2;omega⟩
theorem Sm.val {n:Nat} {m:List Nat} (h:Sm n m):val m<4294967296^n:=Nat.lt_of_lt_of_le (EQ h.1) (Nat.pow_le_pow_right (by omega) h.2)
theorem Sm.wj {n:Nat} {m:List Nat} (h:Sm n m):Sm n (Go.e8.dg (Go.e8.val m)):=Sm.dg h.val
theorem EF {z:Int} {b:Bool} {n:Nat} (h1:n=z.natAbs) (h2:b=decide (z<0)):AV.agg [.bool b,.sl false ((dg n).map AL)] = .agg (eZ z):=by rw[h1,h2]
theorem C5 (z:Int):A1 (.agg (eZ z)):=by
 simp only[A1,CD,and_true,true_and];exact CI _
theorem NG {z:Int} (h:z<0):true=decide (z<0):=by simp [h]
theorem FW {z:Int} (h:0<=z):false=decide (z<0):=by simp;omega
theorem XF (n:Nat):Sm n []:=⟨WB,Nat.zero_le _⟩
theorem lH {n d:Nat} (hn:1<=n) (hd:d<4294967296):Sm n [d]:=⟨GS hd,hn⟩
theorem Ml (b:Bool):zv b []=0:=by cases b<;>rfl
theorem Sm.low {n V:Nat} {m:List Nat} (h:Sm n m) (hV:V<=Go.e8.val m):Sm n (Go.e8.dg V):=Sm.dg (Nat.lt_of_le_of_lt hV h.val)
theorem Sm.mul {n k:Nat} {a b:List Nat} (ha:Sm n a) (hb:Sm k b) {V:Nat} (hV:V=Go.e8.val a*Go.e8.val b):Sm (n+k) (Go.e8.dg V):=by
 refine Sm.dg ?_;rw[hV,Nat.pow_add];exact Nat.mul_lt_mul_of_le_of_lt (Nat.le_of_lt ha.val) hb.val (Nat.pow_pos (by omega))
theorem Sm.add {n:Nat} {a b:List Nat} (ha:Sm n a) (hb:Sm n b) {V:Nat} (hV:V<=Go.e8.val a+Go.e8.val b):Sm (n+1) (Go.e8.dg V):=by
 refine Sm.dg ?_;have h1:=ha.val;have h2:=hb.val;rw[Nat.pow_succ];omega
theorem HO (V:Nat):(dg V).length=0↔V=0:=by rw[List.length_eq_zero_iff,gC]
theorem D8 (m:List Nat):zv false m=(val m:Int):=rfl
theorem PA (m:List Nat):zv true m = -(val m:Int):=rfl
def y7 (z:Int):Int:=if z<0 then -1 else if 0<z then 1 else 0
theorem kZ {z:Int} (h:z<0) : -1=y7 z:=by unfold y7;rw[if_pos h]
theorem lC {z:Int} (h:0<z):1=y7 z:=by unfold y7;rw[if_neg (by omega),if_pos h]
theorem dE {z:Int} (h:z=0):0=y7 z:=by unfold y7;rw[if_neg (by omega),if_neg (by omega)]
theorem zU {n:Nat} (h:n<18446744073709551616):val [n%4294967296,n/4294967296]=n:=(by simp [val];omega)
end Go.e8
