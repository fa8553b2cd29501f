/-
  The walk by computation is sound: calls, regions, code, loops, functions.
-/
import Derived.Test.YthgjfcjecnmflaaGreatB6
import Derived.Test.YthgjfcjecnmflaaGreatB2
import Derived.Test.YthgjfcjecnmflaaGreatB1
set_option linter.unusedSimpArgs false
set_option linter.unusedVariables false
set_option linter.unnecessarySimpa false
namespace Go.e6
section
variable {σ:IY} {tm:Tm} {M:Mem} {st:St} {L:Lib} {c5:List Nat}
theorem Oq {own:BC} {q:Bool} {d:Nat} : ∀ {e:List AV},JD e=true->e.mapM (snap own q d)=some e
 | [],_=>rfl
 | v::r,h=>by
  have hv:snap own q d v=some v/\JD r=true:=by
   cases v<;>simp only[JD]at h<;>first|cases h|exact ⟨by cases d<;>rfl,h⟩
  rw[List.mapM_cons,hv.1,Oq hv.2];rfl
theorem Ou {own:BC} {q:Bool} {d:Nat} : ∀ {e:List AV},SI e=true->e.mapM (snap own q d)=some (e.map nl)
 | [],_=>rfl
 | v::r,h=>by
  have hv:snap own q d v=some (nl v)/\SI r=true:=by
   cases v<;>simp only[SI]at h<;>first|cases h|exact ⟨by cases d<;>rfl,h⟩
  rw[List.mapM_cons,hv.1,Ou hv.2];rfl
theorem Ot {own:BC} {q:Bool} {d:Nat} : ∀ {es:List (List AV)},(∀ e∈es,SI e=true)->es.mapM (λ cs:List AV=>cs.mapM (snap own q d))=some (es.map λ e=>e.map nl)
 | [],_=>rfl
 | e::r,h=>by
  rw[List.mapM_cons,Ou (h e List.mem_cons_self),Ot λ x hx=>h x (List.mem_cons_of_mem _ hx)];rfl
theorem Oo {own:BC} {q:Bool} {d:Nat} : ∀ {es:List (List AV)},(∀ e∈es,JD e=true)->es.mapM (λ cs:List AV=>cs.mapM (snap own q d))=some es
 | [],_=>rfl
 | e::r,h=>by
  rw[List.mapM_cons,Oq (h e List.mem_cons_self),Oo λ x hx=>h x (List.mem_cons_of_mem _ hx)];rfl
theorem Mb (hs:QH σ st.own M) {q:Bool} {v:AV} {K:AV->Prop} (h:Y9 q M c5 v K) : ∃ v',(∀ d,snap (st.own.n6 c5) q (d+1) (B8 σ v)=some v')/\K v'/\v ≠ .any/\C0 σ v=B8 σ v:=by
 cases v with
 | row key t z off len =>
  have fin : ∀ (z':Nat) (es:List (List AV)),((st.own.n6 c5) (σ key t).1).e7 (σ key t).2=some ⟨z',es⟩->z=z'->B5 es off len (λ es=>K (.sl q es)) -> ∃ v',(∀ d,snap (st.own.n6 c5) q (d+1) (B8 σ (.row key t z off len))=some v')/\K v'/\AV.row key t z off len ≠ .any/\C0 σ (.row key t z off len)=B8 σ (.row key t z off len):=by
   intro z' es hb hz h;subst hz;obtain ⟨h1,h2,h3⟩:=h;refine ⟨_,λ d => ?_,h3,(by intro e;cases e),rfl⟩;simp only[B8,snap,G0,BC.get,hb];rw[if_pos ⟨h1,trivial⟩];simp only;rw[Ot λ e he=>h2 e (List.mem_of_mem_drop (List.mem_of_mem_take he))];rfl
  simp only[Y9]at h;split at h
  ·rename_i s z' es hm
   split at h
   ·cases hz:Nat.beq z z'<;>simp only[hz,cond_true,cond_false]at h
    cases hb:XN s c5<;>simp only[hb,cond_true,cond_false]at h;refine fin z' es ?_ (CW.1 hz) h;have az:=hs.e7 _ _ _ (GY hm);rw[hs.site _ _ _ hm]at az ⊢;rw[aG hb];exact az
   ·exact h.elim
  ·rename_i s rows hm
   split at h
   ·exact h.elim
   ·rename_i i
    split at h
    ·obtain ⟨z',es,g,h⟩:=h
     cases hz:Nat.beq z z'<;>simp only[hz,cond_true,cond_false]at h;exact fin z' es (hs.e7 key (i+1) (.rw z' es) (by simp [c8,hm,g])) (CW.1 hz) h
    ·rename_i b r
     cases hb:YW (b::r)<;>simp only[hb,cond_true,cond_false]at h;obtain ⟨z',es,g,h⟩:=h;cases hz:Nat.beq z z'<;>simp only[hz,cond_true,cond_false]at h;have g':c8 M key (i+1)=some (.rw z' es):=by simp [c8,hm,g]
     refine fin z' es ?_ (CW.1 hz) h;rw[pP (hs.low _ _ _ g' rfl) hb];exact hs.e7 key (i+1) (.rw z' es) g'
  ·exact h.elim
 | int k n=>exact ⟨_,λ d=>rfl,h,(by intro e;cases e),rfl⟩
 | bool b=>exact ⟨_,λ d=>rfl,h,(by intro e;cases e),rfl⟩
 | sl l es=>exact ⟨_,λ d=>rfl,h,(by intro e;cases e),rfl⟩
 | da c=>exact ⟨_,λ d=>rfl,h,(by intro e;cases e),rfl⟩
 | nil=>exact ⟨_,λ d=>rfl,h,(by intro e;cases e),rfl⟩
 | _=>exact (h:False).elim
theorem Ma (hs:QH σ st.own M) {q:Bool} : ∀ {l:List AV} {K:List AV->Prop},jK q M c5 l K -> ∃ l',(∀ d,(l.map (B8 σ)).mapM (snap (st.own.n6 c5) q (d+1))=some l')/\K l'
 | [],K,h=>⟨[],λ d=>rfl,h⟩
 | v::r,K,h=>by
  obtain ⟨v',h1,h2,_⟩:=Mb hs (show Y9 q M c5 v λ v'=>jK q M c5 r λ r'=>K (v'::r') from h);obtain ⟨l',h3,h4⟩:=Ma hs h2;refine ⟨v'::l',λ d => ?_,h4⟩;rw[List.map_cons,List.mapM_cons,h1 d,h3 d];rfl
theorem Lz (hs:QH σ st.own M) {q:Bool} : ∀ {l:List (List AV)} {K:List (List AV)->Prop},qP q M c5 l K -> ∃ l',(∀ d,(l.map λ cs=>cs.map (B8 σ)).mapM (λ cs:List AV=>cs.mapM (snap (st.own.n6 c5) q (d+1)))=some l')/\K l'
 | [],K,h=>⟨[],λ d=>rfl,h⟩
 | v::r,K,h=>by
  obtain ⟨v',h1,h2⟩:=Ma hs (show jK q M c5 v λ v'=>qP q M c5 r λ r'=>K (v'::r') from h);obtain ⟨l',h3,h4⟩:=Lz hs h2;refine ⟨v'::l',λ d => ?_,h4⟩;rw[List.map_cons,List.mapM_cons,h1 d,h3 d];rfl
theorem qH {own:BC} {q:Bool} {d:Nat} {k:Nat} : ∀ {rows:List (Option (Nat × List (List AV)))} {i:Nat},(∀ j z es,rows[j]? = some (some (z,es))->(own (σ k (i+j+1)).1).e7 (σ k (i+j+1)).2=some ⟨z,es⟩ /\ ∀ e∈es,JD e=true) ->
  (DE σ k i rows).mapM (λ cs:List AV=>cs.mapM (snap own q (d+1)))=some (XU q rows)
 | [],i,h=>rfl
 | none::r,i,h=>by
  rw[DE,List.mapM_cons,qH (i:=i+1) λ j z es hj=>by
   have:=h (j+1) z es (by simpa using hj)
   rwa [show i+(j+1)+1=i+1+j+1 by omega]at this]
  rfl
 | some (z,es)::r,i,h=>by
  rw[DE,List.mapM_cons,qH (i:=i+1) λ j z es hj=>by
   have:=h (j+1) z es (by simpa using hj)
   rwa [show i+(j+1)+1=i+1+j+1 by omega]at this]
  obtain ⟨h1,h2⟩:=h 0 z es rfl;have:snap own q (d+1) (.row (σ k (i+1)).1 (σ k (i+1)).2 z 0 es.length)=some (.sl q es):=by
   simp only[snap,G0,BC.get];rw[show (own (σ k (i+1)).1).e7 (σ k (i+1)).2=some ⟨z,es⟩ from h1];simp only[Nat.zero_add,Nat.le_refl,and_self,if_true,List.drop_zero];rw[zT (Nat.le_refl _),Oo h2];rfl
  rw[List.mapM_cons,this];rfl
theorem Ly (hs:QH σ st.own M) {q:Bool} {v:AV} {K:AV->Prop} (h:eD q M c5 v K) : ∃ v',snap (st.own.n6 c5) q 6 (B8 σ v)=some v'/\K v'/\v ≠ .any/\C0 σ v=B8 σ v/\EJ (st.own.n6 c5) q (B8 σ v)=some v':=by
 have tk:Y9 q M c5 v K -> ∃ v',snap (st.own.n6 c5) q 6 (B8 σ v)=some v'/\K v'/\v ≠ .any/\C0 σ v=B8 σ v/\EJ (st.own.n6 c5) q (B8 σ v)=some v':=by
  intro h;obtain ⟨v',h1,h2,h3,h4⟩:=Mb hs h;refine ⟨v',h1 5,h2,h3,h4,?_⟩;have:=h1 5
  cases v<;>first|exact this|exact (h:False).elim
 unfold eD at h;split at h
 ·rename_i key z off len
  split at h
  ·rename_i s z' es hm
   cases hz:Nat.beq z z'<;>simp only[hz,cond_true,cond_false]at h;cases hb:XN s c5<;>simp only[hb,cond_true,cond_false]at h;cases ho:Nat.beq off 0<;>simp only[ho,cond_true,cond_false]at h;obtain rfl:=CW.1 hz;obtain rfl:=CW.1 ho;obtain ⟨rfl,h⟩:=h;obtain ⟨l',h1,h2⟩:=Lz hs h;have az:=hs.e7 _ _ _ (GY hm);rw[hs.site _ _ _ hm]at az;have key:snap (st.own.n6 c5) q 6 (B8 σ (.row key 0 z 0 es.length))=some (.sl q l'):=by
    simp only[B8,snap,G0,BC.get,hs.site _ _ _ hm];rw[aG hb,az];simp only[B6.e7,Nat.zero_add,List.length_map,Nat.le_refl,and_self,if_true,List.drop_zero];rw[zT (by simp),h1 4];rfl
   exact ⟨_,key,h2,(by intro e;cases e),rfl,key⟩
  ·rename_i s rows hm
   split at h
   ·cases hz:Nat.beq z 1<;>simp only[hz,cond_true,cond_false]at h
    obtain rfl:=CW.1 hz;obtain ⟨rfl,rfl,h1,h2⟩:=h;have az:=hs.e7 _ _ _ (GY hm);have key:snap (st.own.n6 []) q 6 (B8 σ (.row key 0 1 0 rows.length))=some (.sl q (XU q rows)):=by
     simp only[B8,snap,G0,BC.get,BC.n6];rw[az];simp only[B6.e7,Nat.zero_add,HV,Nat.le_refl,and_self,if_true,List.drop_zero];rw[zT (by rw[HV];exact Nat.le_refl _),qH (i:=0) λ j z es hj=>⟨by
      have:=hs.e7 key (j+1) (.rw z es) (by simp [c8,hm,hj])
      simpa [B6.e7] using this,h1 z es (zM hj)⟩]
     rfl
    exact ⟨_,key,h2,(by intro e;cases e),rfl,key⟩
   ·exact h.elim
  ·exact tk h
 ·exact tk h
theorem Mc (hs:QH σ st.own M) {q:Bool} : ∀ {l:List AV} {K:List AV->Prop},qQ q M c5 l K -> ∃ l',(l.map (B8 σ)).mapM (snap (st.own.n6 c5) q 6)=some l'/\K l'
 | [],K,h=>⟨[],rfl,h⟩
 | v::r,K,h=>by
  obtain ⟨v',h1,h2,_⟩:=Ly hs (show eD q M c5 v λ v'=>qQ q M c5 r λ r'=>K (v'::r') from h);obtain ⟨l',h3,h4⟩:=Mc hs h2;refine ⟨v'::l',?_,h4⟩;rw[List.map_cons,List.mapM_cons,h1,h3];rfl
theorem jI (hs:QH σ st.own M) {q:Bool} {v:AV} {K:AV->Prop} (h:WQ q M c5 v K) : ∃ v',EJ (st.own.n6 c5) q (CI σ v)=some v'/\K v'/\v ≠ .any/\CI σ v=C0 σ v:=by
 cases v with
 | agg cs =>
  simp only[WQ]at h;obtain ⟨l',h1,h2⟩:=Mc hs h;refine ⟨.agg l',?_,h2,(by intro e;cases e),rfl⟩;simp only[OL,EJ,h1,Option.map_some]
 | g8 vs=>exact (h:False).elim
 | fn p f g cs=>exact (h:False).elim
 | any=>exact (h:False).elim
 | _ =>
  simp only[WQ]at h;obtain ⟨v',h1,h2,h3,h4,h5⟩:=Ly hs h;exact ⟨v',h5,h2,h3,rfl⟩
theorem jO (hr:RX σ tm M st) : ∀ {xs:List BH} {K:List AV->Prop},eE tm M c5 xs K -> ∃ vs,(xs.map st.ev).mapM (EJ (st.own.n6 c5) true)=some vs/\K vs
 | [],K,h=>⟨[],rfl,h⟩
 | x::r,K,h=>by
  obtain ⟨v',h1,h2,h3,_⟩:=jI hr.sat (show WQ true M c5 (ex tm x) λ v=>eE tm M c5 r λ vs=>K (v::vs) from h);obtain ⟨l',h4,h5⟩:=jO hr h2;refine ⟨v'::l',?_,h5⟩;rw[List.map_cons,List.mapM_cons,hr.ev rfl h3,h1,h4];rfl
theorem AiT (hs:QH σ st.own M) {v:AV} {K:AV->Prop} (h:jL M c5 v K) : ∃ v',VT (st.own.n6 c5) true (CI σ v)=some v'/\K v'/\v ≠ .any/\CI σ v=C0 σ v:=by
 cases v with
 | nil=>exact ⟨.nil,rfl,h,(by intro e;cases e),rfl⟩
 | _ =>
  simp only[jL]at h;obtain ⟨v',h1,h2,h3,h4⟩:=jI hs h;exact ⟨v',h1,h2,h3,h4⟩
theorem Md (hr:RX σ tm M st) : ∀ {xs:List BH} {K:List AV->Prop},qR tm M c5 xs K -> ∃ vs,(xs.map st.ev).mapM (VT (st.own.n6 c5) true)=some vs/\K vs
 | [],K,h=>⟨[],rfl,h⟩
 | x::r,K,h=>by
  obtain ⟨v',h1,h2,h3,_⟩:=AiT hr.sat (show jL M c5 (ex tm x) λ v=>qR tm M c5 r λ vs=>K (v::vs) from h);obtain ⟨l',h4,h5⟩:=Md hr h2;refine ⟨v'::l',?_,h5⟩;rw[List.map_cons,List.mapM_cons,hr.ev rfl h3,h1,h4];rfl
theorem cW (hr:RX σ tm M st) : ∀ {xs:List BH} {K:List AV->Prop},Z4 tm xs K -> ∃ vs,xs.map st.ev=vs.map (CI σ)/\K vs
 | [],K,h=>⟨[],rfl,h⟩
 | x::r,K,h=>by
  obtain ⟨h1,h2⟩:=gZ (show fV (ex tm x) λ v=>Z4 tm r λ vs=>K (v::vs) from h);obtain ⟨vs,h3,h4⟩:=cW hr h2;exact ⟨ex tm x::vs,by rw[List.map_cons,List.map_cons,hr.ev rfl h1,h3],h4⟩
theorem uH {v:AV} (h:B4 v):B8 σ v=v:=by
 cases v<;>first|rfl|(simp only[B4]at h)
theorem uF : ∀ {l:List AV},DN l->l.map (B8 σ)=l
 | [],_=>rfl
 | v::r,h=>by
  simp only[DN]at h;rw[List.map_cons,uH h.1,uF h.2]
theorem uI {v:AV} (h:B4 v):C0 σ v=v:=by
 cases v with
 | agg cs=>simp only[B4]at h;simp only[C0,uF h]
 | fn p f g cs=>simp only[B4]at h
 | _=>exact uH (σ:=σ) h
theorem uG : ∀ {l:List AV},DN l->l.map (C0 σ)=l
 | [],_=>rfl
 | v::r,h=>by
  simp only[DN]at h;rw[List.map_cons,uI h.1,uG h.2]
theorem lO {v:AV} (h:B4 v):CI σ v=v:=by
 cases v with
 | g8 cs=>simp only[B4]at h;simp only[CI,uG h]
 | _=>exact uI (σ:=σ) h
theorem Mk {I:List AV->Option (AV × BC)} {vs:List AV} {r:AV} (h:OX I vs=some r):B4 r:=by
 unfold OX at h;split at h
 ·split at h
  ·split at h
   ·obtain rfl:=Option.some.inj h
    assumption
   ·cases h
  ·cases h
 ·cases h
theorem Ev.clean {f:Nat} {vs:List AV} {r:AV} (h:Ev L f vs r):B4 r:=by
 obtain ⟨n,h⟩:=h;unfold LM QQ at h;split at h
 ·split at h
  ·rename_i r1 r2 h1 h2
   split at h
   ·obtain rfl:=Option.some.inj h
    exact Mk h1
   ·cases h
  ·cases h
 ·exact Mk h
theorem RX.put (h:RX σ tm M st) (d:Nat) {v v':AV} (e:v'=CI σ v):RX σ ((d,v)::tm) M ⟨jy st.tm d v',st.own⟩:=by
 refine ⟨λ j => ?_,h.sat⟩;simp only[tg,eN];cases hb:Nat.beq j d
 ·rw[if_neg (IZ.1 hb)];exact h.tm j
 ·rw[if_pos (CW.1 hb)];exact Or.inr e
theorem Ow : ∀ {cs:List AV},dQ cs=true->cs.map (CI σ)=cs.map (B8 σ)
 | [],_=>rfl
 | v::r,h=>by
  simp only[dQ]at h;cases hv:pR v<;>simp only[hv,cond_true,cond_false]at h
  ·cases h
  ·rw[List.map_cons,List.map_cons,Ow h]
   cases v<;>first|rfl|(simp [pR]at hv)
theorem AeR {v:AV} (h:JY v=true):B8 σ v=v:=by cases v<;>first|rfl|(simp [JY]at h)
theorem vK : ∀ {cs:List AV},cs.all JY=true->cs.map (B8 σ)=cs
 | [],_=>rfl
 | c::r,h=>by
  simp only[List.all_cons,Bool.and_eq_true]at h;rw[List.map_cons,AeR h.1,vK h.2]
theorem vL : ∀ {vs:List AV},vs.all dq=true->vs.map (CI σ)=vs
 | [],_=>rfl
 | v::r,h=>by
  simp only[List.all_cons,Bool.and_eq_true]at h;rw[List.map_cons,vL h.2];congr 1;cases v with
  | agg cs=>simp only[CI,C0,vK (show cs.all JY=true from h.1)]
  | _=>first|rfl|(simp [dq,JY]at h)
theorem Ahw {r:AV} (hc:B4 r) (hf:QG r):CI σ (yo r)=yo r:=by
 cases r with
 | agg cs =>
  simp only[yo,CI,C0];congr 1;rw[List.map_map];refine List.map_congr_left λ c ue => ?_
  have:=hf c ue
  cases c<;>first|rfl|exact this.elim
 | _=>first|rfl|exact hf.elim
theorem Aht {c:AV} (h:B4 c):B8 σ (NX c)=NX c:=by
 cases c<;>first|(simp only[NX,B8];done)|(simp only[B4]at h;done)
theorem Ahu {r:AV} (h:B4 r) (hd:ZI r):CI σ (VJ r)=VJ r:=by
 cases r with
 | agg cs =>
  simp only[B4]at h;have : ∀ cs:List AV,DN cs->(RN cs).map (B8 σ)=RN cs:=by
   intro cs;induction cs with
   | nil=>intro _;simp [RN]
   | cons c l ih =>
    intro h;simp only[DN]at h;rw[RN,List.map_cons,ih h.2,Aht h.1]
  simp only[VJ,CI,C0,this cs h]
 | g8=>exact hd.elim
 | fn=>exact hd.elim
 | _=>first|(simp only[VJ,NX,CI,C0,B8];done)|(simp only[B4]at h;done)
theorem Ahv {r:AV} (h:B4 r) (hd:QG r\/ZI r):CI σ (RO r)=RO r:=by
 by_cases hf:QG r
 ·rw[oY hf];exact Ahw h hf
 ·rw[zP hf];exact Ahu h (hd.resolve_left hf)
theorem yQ : ∀ {l:List AV},iC l=true->l.map (CI σ)=l
 | [],_=>rfl
 | .int _ _::r,h=>by
  rw[List.map_cons,yQ (l:=r) h];rfl
theorem Xr {K:AV->Mem->Prop} (hr:RX σ tm M st) {op:F5} (h:XE L tm M c5 K op):C1 L tm c5 K op st\/(∃ f xs,op = .call f xs)\/(∃ f xs,op = .g7 f xs)\/(∃ x xs,op = .o3 x xs)\/(∃ f xs,op = .m6 f xs)\/(∃ s f xs,op = .o8 s f xs) \/ ∃ s f xs,op = .cw s f xs:=by
 cases op with
 | call f xs=>exact Or.inr (Or.inl ⟨_,_,rfl⟩)
 | g7 f xs=>exact Or.inr (Or.inr (Or.inl ⟨_,_,rfl⟩))
 | o3 x xs=>exact Or.inr (Or.inr (Or.inr (Or.inl ⟨_,_,rfl⟩)))
 | m6 f xs=>exact Or.inr (Or.inr (Or.inr (Or.inr (Or.inl ⟨_,_,rfl⟩))))
 | o8 s f xs=>exact Or.inr (Or.inr (Or.inr (Or.inr (Or.inr (Or.inl ⟨_,_,_,rfl⟩)))))
 | cw s f xs=>exact Or.inr (Or.inr (Or.inr (Or.inr (Or.inr (Or.inr ⟨_,_,_,rfl⟩)))))
 | nr s n x v=>exact Or.inl (Ada hr h)
 | rp ne x=>exact Or.inl (Vn hr h)
 | bad=>exact (show False from h).elim
 | gv tb x=>exact Or.inl (Vv hr h)
 | pe p f xs=>exact Or.inl (Vr hr h)
 | a7 x=>exact Or.inl (Vt hr h)
 | cn s z=>exact Or.inl (Adc hr h)
 | pick c a b=>exact Or.inl (Vu hr h)
 | bin o x y=>exact Or.inl (Xb hr h)
 | beq ne x y=>exact Or.inl (Ww hr h)
 | oa ne n x y=>exact Or.inl (Wi hr h)
 | un o x=>exact Or.inl (Adb hr h)
 | conv k x=>exact Or.inl (Xm hr h)
 | box s x=>exact Or.inl (Xe hr h)
 | alloc s z=>exact Or.inl (Wj hr h)
 | build z ps=>exact Or.inl (Xi hr h)
 | e5 s z ps=>exact Or.inl (Xf hr h)
 | a5 x o=>exact Or.inl (Xp hr h)
 | oi x o n a=>exact Or.inl (Xq hr h)
 | a9 a z x i=>exact Or.inl (Xv hr h)
 | ld a n x=>exact Or.inl (Vo hr h)
 | st n x v=>exact Or.inl (sT hr h)
 | mk s z b ze l c=>exact Or.inl (Vq hr h)
 | ig z x lo hi=>exact Or.inl (Vw hr h)
 | ext x i=>exact Or.inl (Xn hr h)
 | len x=>exact Or.inl (Vp hr h)
 | mm m xs=>exact Or.inl (Vs hr h)
 | app s z b x y=>exact Or.inl (Wk hr h)
theorem kT {K:AV->Mem->Prop} (hr:RX σ tm M st) {op:F5} {d:Option Nat} {g:Option (Nat × Bool)} {l:List AI} {k:List It} {Q:St->Prop} (h:XE L tm M c5 K op) (hg:IR st g=some true)
  (hk : ∀ σ' v v' M' n0,K v M'->v'=CI σ' v->RX σ' tm M' ⟨st.tm,n0⟩->AO L l k ⟨((⟨st.tm,n0⟩:St).dst d v').tm,n0⟩ Q):AO L (⟨d,op,g,c5⟩::l) k st Q:=by
 rcases Xr hr h with ⟨E,σ',v,M',h1,h2,h3,h4⟩|⟨f,xs,rfl⟩|⟨f,xs,rfl⟩|⟨x,xs,rfl⟩|⟨f,xs,rfl⟩|⟨s,f,xs,rfl⟩|⟨s,f,xs,rfl⟩
 ·rw[Yg hg h1,kZ]
  have:=hk σ' v _ M' _ h2 h3 h4
  cases d<;>exact this
 ·simp only[XE]at h
  obtain ⟨vs,h1,r,h2,h3⟩:=jO hr h;rw[Uo hg h1 h2];have:=hk σ r r M st.own h3 (lO h2.clean).symm hr
  cases d<;>exact this
 ·simp only[XE]at h
  obtain ⟨vs,h1,h2⟩:=cW hr h;obtain ⟨r,n0,σ',M',h3,h4,h5,h6⟩:=h2 σ st.own hr.sat;rw[<-h1]at h3;rw[Uq hg h3];have:=hk σ' r _ M' n0 h6 rfl ⟨λ j=>by rw[h5 j];exact hr.tm j,h4⟩
  cases d<;>exact this
 ·simp only[XE]at h
  split at h
  ·rename_i f g' e1
   obtain ⟨h0,h⟩:=h;obtain ⟨vs,h1,r,h2,h3⟩:=jO hr h;have e2:=hr.ev e1 (by intro e;cases e);rw[jB,List.map_nil,h0]at e2;rw[Ur hg e2 h1 h2];have:=hk σ r r M st.own h3 (lO h2.clean).symm hr
   cases d<;>exact this
  ·rename_i f g' c cs e1
   obtain ⟨h0,h⟩:=h;obtain ⟨v',h1,h,_,_⟩:=jI hr.sat h;obtain ⟨vs,h2,r,h3,h4⟩:=jO hr h;have e2:=hr.ev e1 (by intro e;cases e);rw[jB,h0]at e2;have h5:(AV.agg (c::cs |>.map (B8 σ))::xs.map st.ev).mapM (EJ st.own true)=some (v'::vs):=by
    rw[List.mapM_cons,show EJ st.own true (AV.agg (c::cs |>.map (B8 σ)))=some v' from h1,show (xs.map st.ev).mapM (EJ st.own true)=some vs from h2];rfl
   rw[Up hg e2 h5 h3];have:=hk σ r r M st.own h4 (lO h3.clean).symm hr
   cases d<;>exact this
  ·rename_i f g' cs e1
   cases ho:dQ cs<;>simp only[ho,cond_true,cond_false]at h;obtain ⟨h0,h⟩:=h;obtain ⟨vs,h1,h2⟩:=cW hr h;rw[NU]at h2;obtain ⟨r,n0,σ',M',h3,h4,h5,h6⟩:=h2 σ st.own hr.sat;rw[List.map_append,<-h1,Ow (σ:=σ) ho]at h3;have e2:=hr.ev e1 (by intro e;cases e);rw[jB,h0]at e2;rw[Xw hg e2 h3];have:=hk σ' r _ M' n0 h6 rfl ⟨λ j=>by rw[h5 j];exact hr.tm j,h4⟩
   cases d<;>exact this
  ·exact h.elim
 ·simp only[XE]at h
  obtain ⟨vs,h1,h2⟩:=cW hr h;cases ho:vs.all dq<;>simp only[ho,cond_true,cond_false]at h2;obtain ⟨r,h3,h4,h5⟩:=h2;have e1:xs.map st.ev=vs:=by rw[h1];exact vL ho
  rw[Us hg (by rw[e1];exact ho) (by rw[e1];exact h3) h4];have:=hk σ (RO r) (RO r) M st.own h5 (Ahv h3.clean h4).symm hr
  cases d<;>exact this
 ·simp only[XE]at h
  cases Fb:HU s<;>simp only[Fb,cond_true,cond_false]at h;obtain ⟨vs,h1,z,es,n,h2,rfl,h3⟩:=Md hr h;obtain ⟨k',g1,g2,g3⟩:=N7 h3;refine Ut hg h1 h2 ?_;rw[kZ];have:=hk (ET σ k' λ_=>(s,st.own.j5 s)) _ (.row s (st.own.j5 s) z 0 es.length) _ _ g3 (by simp only[FJ,C9]) (hr.gp (q:=s) g1 g2 (.rw z es) trivial rfl (λ_=>Fb))
  cases d<;>exact this
 ·simp only[XE]at h
  obtain ⟨vs,h1,h2⟩:=cW hr h;split at h2
  ·rename_i key rest
   cases hi:iC rest<;>simp only[hi,cond_true,cond_false]at h2;obtain ⟨cells,fy,kd,n,g1,g2,g3,g4,g5⟩:=h2;have fm:=hr.sat.site _ _ _ g1;have az:=hr.sat.e7 _ _ _ (GY g1);rw[fm]at az;simp only[B6.e7,PE g2]at az;have cu:xs.map st.ev = .ptr s (σ key 0).2 0 0::rest:=by
    rw[h1,List.map_cons,GQ,fm,yQ hi]
   have hE:=g4 (σ key 0).2 (st.own s) az;refine Xx hg (by rw[cu];exact hE) ?_;rw[kZ];have:=hk σ (.int kd n) (.int kd n) _ _ g5 rfl (hr.Lr g1 trivial (.bx fy) trivial (λ h=>by cases h))
   simp only[B6.e7,PE g3]at this;cases d<;>exact this
  ·exact h2.elim
theorem Agw (hr:RX σ tm M st) {g:Nat} {w:Bool} {b:Bool} (e:tg tm g = .bool b):IR st (some (g,w))=some (b == w):=by
 rcases hr.tm g with h|h
 ·rw[e]at h;cases h
 ·rw[e]at h
  simp only[IR,h,M6]
theorem Agx (hr:RX σ tm M st) {g:Nat} {w:Bool} (e:tg tm g = .g8 []):IR st (some (g,w))=some false:=by
 rcases hr.tm g with h|h
 ·rw[e]at h;cases h
 ·rw[e]at h
  simp only[IR,h,O6,List.map_nil]
theorem rH {key:Nat} : ∀ (tm:Tm) (j:Nat),tg (Dk key tm) j = .any\/tg (Dk key tm) j=tg tm j
 | [],_=>Or.inl rfl
 | (i,v)::r,j=>by
  simp only[Dk];cases hc:W7 key v<;>cases hb:Nat.beq j i;all_goals simp only[cond_true,cond_false,tg,hb]
  ·exact rH r j
  ·exact Or.inr trivial
  ·exact rH r j
  ·exact Or.inl trivial
theorem Ajv {v:AV} {K:Tm->Prop} (h:xk v tm K) : ∃ ch,(∀ j,tg ch j = .any\/tg ch j=tg tm j)/\K ch:=by
 unfold xk at h;split at h
 ·rw[cZ]at h
  exact ⟨_,λ j=>rH _ j,h⟩
 ·exact ⟨_,λ j=>Or.inr rfl,h⟩
theorem sV {k:List It} {Q:Tm->Mem->Prop} : ∀ {l:List AI} {K:Tm->Mem->Prop} {tm:Tm} {M:Mem},XO L l K tm M->(∀ ch M',K ch M'->AH L k ch M' Q)->rU L l k tm M Q
 | [],K,tm,M,h,hk=>λ σ st hr=>Yd.2 (hk tm M h σ st hr)
 | o::l,K,tm,M,h,hk=>by
  intro σ st hr;have h:XI L o (XO L l) K tm M:=h;have ih : ∀ ch M',XO L l K ch M'->rU L l k ch M' Q:=λ ch M' h'=>sV h' hk
  have some_ : ∀ (d:Nat) (op:F5) (g:Option (Nat × Bool)) (c5:List Nat),IR st g=some true->XE L tm M c5 (λ v M=>XO L l K ((d,v)::tm) M) op->AO L (⟨some d,op,g,c5⟩::l) k st (SQ Q):=by
   intro d op g c5 hg hx;refine kT hr hx hg ?_;intro σ' v v' M' n0 h1 h2 h3;exact ih _ _ h1 σ' _ (h3.put d h2)
  have Cf : ∀ (d:Nat) (u:AV) (op:F5) (c5:List Nat),XE L tm M c5 (λ v M=>xk u tm λ tm=>XO L l K ((d,v)::tm) M) op->AO L (⟨some d,op,none,c5⟩::l) k st (SQ Q):=by
   intro d u op c5 hx;refine kT hr hx rfl ?_;intro σ' v v' M' n0 h1 h2 h3;obtain ⟨ch,g1,g2⟩:=Ajv h1;exact ih _ _ g2 σ' _ ((show RX σ' ch M' ⟨st.tm,n0⟩ from ⟨λ j=>(g1 j).elim Or.inl λ e=>by rw[e];exact h3.tm j,h3.sat⟩).put d h2)
  have none_ : ∀ (op:F5) (g:Option (Nat × Bool)) (c5:List Nat),IR st g=some true->XE L tm M c5 (λ_ M=>XO L l K tm M) op->AO L (⟨none,op,g,c5⟩::l) k st (SQ Q):=by
   intro op g c5 hg hx;refine kT hr hx hg ?_;intro σ' v v' M' n0 h1 h2 h3;exact ih _ _ h1 σ' _ h3
  have An : ∀ (d:Option Nat) (op:F5) (g:Option (Nat × Bool)) (c5:List Nat),IR st g=some false->(match d with|some d=>XO L l K ((d,.g8 [])::tm) M|none=>XO L l K tm M)->AO L (⟨d,op,g,c5⟩::l) k st (SQ Q):=by
   intro d op g c5 hg hx;rw[Yf hg];cases d with
   | none=>exact ih _ _ hx σ _ hr
   | some d=>exact ih _ _ hx σ _ (hr.put d rfl)
  obtain ⟨d,op,g,c5⟩:=o;cases g with
  | none =>
   cases d with
   | none=>exact none_ op none c5 rfl h
   | some d =>
    cases op with
    | app s z b x y=>exact Cf d (ex tm x) (.app s z b x y) c5 h
    | _=>exact some_ d _ none c5 rfl h
  | some gw =>
   obtain ⟨g,w⟩:=gw;have h:(match tg tm g with
    | .bool b=>fB (b == w) λ c=>match c,d with
     | true,some d=>XE L tm M c5 (λ v M=>XO L l K ((d,v)::tm) M) op
     | true,none=>XE L tm M c5 (λ_ M=>XO L l K tm M) op
     | false,some d=>XO L l K ((d,.g8 [])::tm) M
     | false,none=>XO L l K tm M
    | .g8 []=>match d with
     | some d=>XO L l K ((d,.g8 [])::tm) M
     | none=>XO L l K tm M
    | _=>False):=by cases d<;>cases op<;>exact h
   split at h
   ·rename_i b e
    rw[WD]at h;have hg:=Agw hr (w:=w) e;cases hb:(b == w)<;>rw[hb]at h hg
    ·exact An d op _ c5 hg (by cases d<;>exact h)
    ·cases d with
     | none=>exact none_ op _ c5 hg h
     | some d=>exact some_ d op _ c5 hg h
   ·rename_i e
    exact An d op _ c5 (Agx hr e) (by cases d<;>exact h)
   ·exact h.elim
theorem sU {Q:Tm->Mem->Prop} : ∀ {n:Nat} {k:List It} {tm:Tm} {M:Mem},XK L Q n k tm M->AH L k tm M Q
 | 0,k,tm,M,h=>h
 | n+1,[],tm,M,h=>λ σ st hr=>Vh.2 ⟨σ,tm,M,hr,h⟩
 | n+1,it::k,tm,M,h=>by
  have h:XS L Q (XK L Q n) (it::k) tm M:=h;have ih : ∀ k tm M,XK L Q n k tm M->AH L k tm M Q:=λ k tm M h=>sU h
  intro σ st hr;cases it with
  | e7 id=>exact Uy.2 (ih _ _ _ h σ st hr)
  | ns ts ss =>
   simp only[XS,Agh,cZ]at h;cases ss with
   | cons s r=>exact h.elim
   | nil =>
    refine Vd.2 (ih _ _ _ h σ _ ⟨λ j => ?_,hr.sat⟩);rw[eJ,aS,tH,lG,Bool.false_or];cases hc:ts.contains j
    ·simp only[Bool.false_eq_true,if_false,cond_false]
     exact hr.tm j
    ·exact Or.inl rfl
  | lp c=>exact h σ st hr
  | code c =>
   cases c with
   | skip=>exact Un.2 (ih _ _ _ h σ st hr)
   | ops l d=>exact Vj.2 (sV h (λ ch M' h'=>ih _ _ _ h') σ st hr)
   | dr c ts ss=>exact Vc.2 (ih _ _ _ h σ st hr)
   | scope c=>exact Ul.2 (ih _ _ _ h σ st hr)
   | seq a b=>exact Um.2 (ih _ _ _ h σ st hr)
   | cond x a b =>
    simp only[XS]at h;split at h
    ·rename_i b' e
     rw[WD]at h;rw[Vb (hr.ev e (by intro e;cases e))];cases b'
     ·simpa using ih _ _ _ h σ st hr
     ·simpa using ih _ _ _ h σ st hr
    ·exact h.elim
   | block id c=>exact Uz.2 (ih _ _ _ h σ st hr)
   | loop c=>exact Vf.2 (rT.1 (h σ st hr))
   | exit id =>
    simp only[XS]at h;split at h
    ·rename_i k' e
     exact (Ve e).2 (ih _ _ _ h σ st hr)
    ·exact h.elim
   | ret=>exact Uk.2 ⟨σ,tm,M,hr,h⟩
theorem Aio (hr:RX σ tm M st) {r:PM} {K:AV->Prop} (h:dZ tm M r K) : ∃ v,HY st r=some (CI σ v)/\K v/\CI σ v=C0 σ v:=by
 cases r with
 | tmp t =>
  simp only[dZ]at h;obtain ⟨h1,h2,h3⟩:=xJ (σ:=σ) h;refine ⟨_,?_,h3,h2⟩;rcases hr.tm t with e|e
  ·exact absurd e h1
  ·simp only[HY,e]
   cases hv:tg tm t<;>rw[hv]at h h1<;>first|rfl|exact (h:False).elim
 | cell t agg n =>
  simp only[dZ]at h;split at h
  ·rename_i key i j e
   split at h
   ·rename_i s cs hm
    cases hi:Nat.beq i 0<;>simp only[hi,cond_true,cond_false]at h;obtain rfl:=CW.1 hi;split at h
    ·rename_i ds hp
     rw[NU]at h;rcases hr.tm t with e'|e'
     ·rw[e]at e';cases e'
     ·have hs:=hr.sat.site _ _ _ hm
      have az:=hr.sat.e7 _ _ _ (GY hm);rw[hs]at az;have flat : ∀ v,QP agg (ds.map (B8 σ))=some (CI σ v)->HY st (.cell t agg n)=some (CI σ v):=by
       intro v hv;simp only[HY,e',e,GQ,BC.pd,BC.get,hs,az,B6.e7,List.getElem?_cons_zero,iP hp,hv]
      cases agg
      ·simp only[qk]at h
       split at h
       ·rename_i c
        obtain ⟨_,h1,h2⟩:=xK (σ:=σ) h;refine ⟨c,flat c (by rw[h1];rfl),h2,?_⟩;rw[h1];cases c<;>first|rfl|exact (h:False).elim
       ·exact h.elim
      ·exact ⟨.agg ds,flat _ rfl,h,rfl⟩
    ·exact h.elim
   ·exact h.elim
  ·exact h.elim
theorem qD (hr:RX σ tm M st) : ∀ {l:List PM} {K:List AV->Prop},iS tm M l K -> ∃ vs,l.mapM (HY st)=some (vs.map (CI σ))/\K vs/\vs.map (CI σ)=vs.map (C0 σ)
 | [],K,h=>⟨[],rfl,h,rfl⟩
 | r::l,K,h=>by
  obtain ⟨v,h1,h2,h3⟩:=Aio hr (show dZ tm M r λ v=>iS tm M l λ vs=>K (v::vs) from h);obtain ⟨vs,h4,h5,h6⟩:=qD hr h2;exact ⟨v::vs,by rw[List.mapM_cons,h1,h4];rfl,h5,by rw[List.map_cons,List.map_cons,h3,h6]⟩
theorem Lx (hs:QH σ st.own M) {q:Bool} : ∀ {l:List AV} {K:List AV->Prop},qO q M l K -> ∃ l',(l.map (CI σ)).mapM (EJ st.own q)=some l'/\K l' /\ ∀ v∈l,CI σ v=C0 σ v
 | [],K,h=>⟨[],rfl,h,λ v hv=>by cases hv⟩
 | v::r,K,h=>by
  obtain ⟨v',h1,h2,_,h0⟩:=jI hs (show WQ q M [] v λ v'=>qO q M r λ r'=>K (v'::r') from h);obtain ⟨l',h3,h4,h5⟩:=Lx hs h2;refine ⟨v'::l',?_,h4,λ u hu => ?_⟩
  ·rw[List.map_cons,List.mapM_cons,show EJ st.own q (CI σ v)=some v' from h1,h3];rfl
  ·rcases List.mem_cons.1 hu with rfl|hu
   ·exact h0
   ·exact h5 u hu
theorem AiW {own:BC} {q:Bool} {v v':AV} (h:EJ own q v=some v'):XV own q v=some v':=by
 cases v with
 | g8 vs=>simp [EJ,snap]at h
 | _=>exact h
theorem Ahz {f:AV->Option AV} {x y:AV} {r l':List AV} (h:(x::y::r).mapM f=some l') : ∃ a b c,l'=a::b::c:=by
 rw[List.mapM_cons,List.mapM_cons]at h;cases hx:f x with
 | none=>rw[hx]at h;cases h
 | some a =>
  cases hy:f y with
  | none=>rw[hx,hy]at h;cases h
  | some b =>
   cases hr:r.mapM f with
   | none=>rw[hx,hy,hr]at h;cases h
   | some c =>
    rw[hx,hy,hr]at h;exact ⟨a,b,c,(Option.some.inj h).symm⟩
theorem sQ {fn:AFn} {r:AV} (hr:RX σ tm M st) (h:W4 fn r tm M):bJ fn r st:=by
 unfold W4 at h;obtain ⟨vs,h1,h2,h3⟩:=qD hr h;obtain ⟨l',h4,h5,h6⟩:=Lx hr.sat h2;unfold bJ;rw[h1,Option.map_some,Option.bind_some];match vs,l',h4,h5 with
 | [],l',h4,h5 =>
  obtain rfl:=Option.some.inj h4;obtain ⟨e,hc⟩:=h5;exact ⟨by rw[<-e];rfl,hc⟩
 | [v],l',h4,h5 =>
  rw[List.map_cons,List.map_nil,List.mapM_cons]at h4;cases hv:EJ st.own false (CI σ v) with
  | none=>rw[hv]at h4;cases h4
  | some v' =>
   rw[hv]at h4;obtain rfl:=Option.some.inj h4;obtain ⟨e,hc⟩:=h5;exact ⟨by rw[<-e];exact AiW hv,hc⟩
 | v::u::w,l',h4,h5 =>
  obtain ⟨a,b,c,rfl⟩:=Ahz (show List.mapM (EJ st.own false) (CI σ v::CI σ u::w.map (CI σ))=some l' from h4);obtain ⟨e,hc⟩:=h5;refine ⟨?_,hc⟩;rw[<-e];have h4:List.mapM (EJ st.own false) (CI σ v::CI σ u::w.map (CI σ))=some (a::b::c):=h4;show Option.map AV.g8 (List.mapM (EJ st.own false) (CI σ v::CI σ u::w.map (CI σ)))=_;rw[h4];rfl
def XA:AV->Bool
 | .agg cs=>GH cs
 | v=>tk v
def QJ:List AV->Bool
 | []=>true
 | v::r=>bif XA v then QJ r else false
theorem gK {v:AV} (h:XA v=true):CI σ v=v:=by
 cases v with
 | agg cs=>simp only[XA]at h;simp only[CI,C0,PE h]
 | _=>first|rfl|cases h
theorem cL {σ:IY} : ∀ {vs:List AV} {i:Nat},QJ vs=true -> ∀ j,g6 (D7 i vs) j=CI σ (g6 (D7 i vs) j)
 | [],_,_,_=>rfl
 | v::r,i,h,j=>by
  simp only[QJ]at h;cases hv:XA v<;>simp only[hv,cond_true,cond_false]at h
  ·cases h
  ·simp only[AgU,eL]
   split
   ·exact (gK hv).symm
   ·exact cL h j
theorem JM.x {f:Nat} {fn:AFn} {vs:List AV} {r:AV} (hL:L f=some fn) (hp:Nat.beq vs.length fn.cb=true) (hd:QJ vs=true) (h:AH L [.code fn.body] (D7 0 vs) [] (W4 fn r)):JM L f vs r:=by
 refine JM.fwd hL (CW.1 hp) (Vg (h (λ_ _=>(0,0)) ⟨D7 0 vs,BC.emp⟩ ⟨λ j=>Or.inr ?_,?_⟩) ?_)
 ·rw[P9];exact cL hd j
 ·exact ⟨(λ_ _ _ e=>by cases e),(λ_ _ _ e=>by simp [c8,c9]at e),(λ_ _ _ e=>by simp [c8,c9]at e),(λ_ _ _ _ _ _ e=>by simp [c8,c9]at e),(λ_ _ _ e=>by simp [c8,c9]at e)⟩
 ·rintro s ⟨σ,tm,M,hr,hq⟩
  exact sQ hr hq
theorem Ev.x {f:Nat} {fn:AFn} {vs:List AV} {r:AV} (hL:L f=some fn) (hp:Nat.beq vs.length fn.cb=true) (hd:QJ vs=true) (h:AH L [.code fn.body] (D7 0 vs) [] (W4 fn r)) (hs:fn.pj=false:=by rfl):Ev L f vs r:=(JM.x hL hp hd h).ev hL hs
def JP:List (Nat × Nat)->Nat->Nat
 | [],k=>k
 | (a,b)::r,k=>bif Nat.beq k a then b else JP r k
def iV (τ:List (Nat × Nat)):AV->AV
 | .row k t z o n => .row (JP τ k) t z o n
 | .ptr k t i j => .ptr (JP τ k) t i j
 | v=>v
def XT (τ:List (Nat × Nat)):List AV->List AV
 | []=>[]
 | v::r=>iV τ v::XT τ r
def aM (τ:List (Nat × Nat)):AV->AV
 | .agg cs => .agg (XT τ cs)
 | .fn p f g cs => .fn p f g (XT τ cs)
 | v=>iV τ v
def iX (τ:List (Nat × Nat)):List AV->List AV
 | []=>[]
 | v::r=>aM τ v::iX τ r
def iW (τ:List (Nat × Nat)):AV->AV
 | .g8 cs => .g8 (iX τ cs)
 | v=>aM τ v
def iY (τ:List (Nat × Nat)):List (List AV)->List (List AV)
 | []=>[]
 | v::r=>XT τ v::iY τ r
def P4 (τ:List (Nat × Nat)):B6->B6
 | .bx cs => .bx (XT τ cs)
 | .rw z es => .rw z es
 | .bs z es => .bs z (iY τ es)
 | .mx rows => .mx rows
 | .hx i v rows => .hx i v rows
 | .vw w rows => .vw w rows
variable {τ:List (Nat × Nat)}
theorem eA : ∀ l:List AV,XT τ l=l.map (iV τ)
 | []=>rfl
 | v::r=>by rw[XT,eA r];rfl
theorem Mr : ∀ l:List AV,iX τ l=l.map (aM τ)
 | []=>rfl
 | v::r=>by rw[iX,Mr r];rfl
theorem jS (v:AV):B8 (λ k t=>σ (JP τ k) t) v=B8 σ (iV τ v):=by cases v<;>rfl
theorem rA (v:AV):C0 (λ k t=>σ (JP τ k) t) v=C0 σ (aM τ v):=by
 cases v with
 | agg cs=>simp only[C0,aM,eA,List.map_map];exact congrArg AV.agg (List.map_congr_left λ v _=>jS v)
 | fn p f g cs=>simp only[C0,aM,eA,List.map_map];exact congrArg (AV.fn p f g) (List.map_congr_left λ v _=>jS v)
 | _=>rfl
theorem AiZ (v:AV):CI (λ k t=>σ (JP τ k) t) v=CI σ (iW τ v):=by
 cases v with
 | g8 cs=>simp only[CI,iW,Mr,List.map_map];exact congrArg AV.g8 (List.map_congr_left λ v _=>rA v)
 | agg cs=>exact rA (.agg cs)
 | fn p f g cs=>exact rA (.fn p f g cs)
 | _=>rfl
theorem Mt : ∀ l:List (List AV),iY τ l=l.map (XT τ)
 | []=>rfl
 | v::r=>by rw[iY,Mt r];rfl
theorem dN {k:Nat} : ∀ (rows:List (Option (Nat × List (List AV)))) (i:Nat),DE (λ k t=>σ (JP τ k) t) k i rows=DE σ (JP τ k) i rows
 | [],i=>rfl
 | none::r,i=>by rw[DE,DE,dN r]
 | some (z,es)::r,i=>by rw[DE,DE,dN r]
theorem Adr (c:B6) (k:Nat):c.e7 (λ k t=>σ (JP τ k) t) k=(P4 τ c).e7 σ (JP τ k):=by
 cases c with
 | bx cs =>
  simp only[B6.e7,P4,eA,List.length_map,List.map_map];rw[List.map_congr_left λ v _=>jS v];rfl
 | rw z es=>rfl
 | bs z es =>
  simp only[B6.e7,P4,Mt,List.map_map];congr 1;refine List.map_congr_left λ cs _ => ?_
  simp only[Function.comp,eA,List.map_map];exact List.map_congr_left λ v _=>jS v
 | mx rows=>simp only[B6.e7,P4,dN]
 | hx i v rows=>simp only[B6.e7,P4,dN]
 | vw w rows=>simp only[B6.e7,P4,dN]
def vk (k s:Nat) (c:B6):Mem->Mem
 | []=>[(k,s,c)]
 | (j,s',c')::r=>bif Nat.beq k j then (k,s,c)::r else (j,s',c')::vk k s c r
def ru:Mem->Mem
 | []=>[]
 | (k,s,c)::r=>vk k s c (ru r)
def dL:Mem->(Mem->Prop)->Prop
 | [],K=>K []
 | (k,s,c)::r,K=>dL r λ r'=>fM (vk k s c r') K
theorem pF : ∀ (M:Mem) (K:Mem->Prop),dL M K=K (ru M)
 | [],_=>rfl
 | (k,s,c)::r,K=>by rw[dL,pF r,VH];rfl
theorem zW (k s:Nat) (c:B6) (j:Nat) : ∀ M:Mem,c9 (vk k s c M) j=bif Nat.beq j k then some (s,c) else c9 M j
 | []=>rfl
 | (i,s',c')::r=>by
  simp only[vk];cases hk:Nat.beq k i
  ·simp only[cond_false,c9,zW k s c j r]
   cases hj:Nat.beq j i<;>cases hjk:Nat.beq j k<;>simp only[cond_true,cond_false];exact absurd ((CW.1 hjk).symm.trans (CW.1 hj)) (IZ.1 hk)
  ·obtain rfl:=CW.1 hk
   simp only[cond_true,c9];cases Nat.beq j k<;>rfl
theorem aB (j:Nat) : ∀ M:Mem,c9 (ru M) j=c9 M j
 | []=>rfl
 | (k,s,c)::r=>by simp only[ru,zW,aB j r,c9]
theorem iG (k t:Nat):c8 (ru M) k t=c8 M k t:=by simp only[c8,aB]
def yp (τ:List (Nat × Nat)) (M:Mem):List (Nat × Nat × B6)->List (Option (Nat × B6))
 | []=>[]
 | (k,_,_)::r=>c9 M (JP τ k)::yp τ M r
def yq (τ:List (Nat × Nat)):List (Nat × Nat × B6)->List (Option (Nat × B6))
 | []=>[]
 | (_,s,c)::r=>some (s,P4 τ c)::yq τ r
def Hr (tm:Tm):Tm->List AV
 | []=>[]
 | (j,_)::r=>tg tm j::Hr tm r
def Hs (τ:List (Nat × Nat)):Tm->List AV
 | []=>[]
 | (_,v)::r=>iW τ v::Hs τ r
def iI:List Nat->Bool
 | []=>true
 | k::r=>bif WJ k r then false else iI r
def keys (τ:List (Nat × Nat)):Mem->List Nat
 | []=>[]
 | (k,_,_)::r=>JP τ k::keys τ r
theorem zV : ∀ {M':Mem} {M:Mem},yp τ M M'=yq τ M' -> ∀ k s c,c9 M' k=some (s,c)->c9 M (JP τ k)=some (s,P4 τ c)
 | [],_,_,_,_,_,e=>by cases e
 | (i,s',c')::r,M,h,k,s,c,e=>by
  simp only[yp,yq,List.cons.injEq]at h;simp only[c9]at e;cases hb:Nat.beq k i<;>simp only[hb,cond_true,cond_false]at e
  ·exact zV h.2 k s c e
  ·simp only[Option.some.injEq,Prod.mk.injEq]at e
   obtain ⟨rfl,rfl⟩:=e;rw[CW.1 hb];exact h.1
theorem pG : ∀ {M:Mem} {k s:Nat} {c:B6},c9 M k=some (s,c)->WJ (JP τ k) (keys τ M)=true
 | (i,s',c')::r,k,s,c,e=>by
  simp only[c9]at e;simp only[keys,WJ];cases hb:Nat.beq k i<;>simp only[hb,cond_true,cond_false]at e
  ·rw[pG e];cases Nat.beq (JP τ k) (JP τ i)<;>rfl
  ·rw[CW.1 hb];simp
theorem Og : ∀ {M:Mem},iI (keys τ M)=true -> ∀ {k k' s s':Nat} {c c':B6},c9 M k=some (s,c)->c9 M k'=some (s',c')->JP τ k=JP τ k'->k=k'
 | [],_,_,_,_,_,_,_,e,_,_=>by cases e
 | (i,s0,c0)::r,h,k,k',s,s',c,c',e,e',hk=>by
  simp only[keys,iI]at h;cases hm:WJ (JP τ i) (keys τ r)<;>simp only[hm,cond_true,cond_false]at h
  ·simp only[c9]at e e'
   cases hb:Nat.beq k i<;>cases l7:Nat.beq k' i<;>simp only[hb,l7,cond_true,cond_false]at e e'
   ·exact Og h e e' hk
   ·obtain rfl:=CW.1 l7
    have:=pG (τ:=τ) e
    rw[hk,hm]at this;cases this
   ·obtain rfl:=CW.1 hb
    have:=pG (τ:=τ) e'
    rw[<-hk,hm]at this;cases this
   ·exact (CW.1 hb).trans (CW.1 l7).symm
  ·cases h
theorem Qp : ∀ {ch:Tm} {tm:Tm},Hr tm ch=Hs τ ch -> ∀ j,tg ch j = .any\/tg tm j=iW τ (tg ch j)
 | [],_,_,_=>Or.inl rfl
 | (i,v)::r,tm,h,j=>by
  simp only[Hr,Hs,List.cons.injEq]at h;simp only[tg];cases hb:Nat.beq j i<;>simp only[cond_true,cond_false]
  ·exact Qp h.2 j
  ·rw[CW.1 hb];exact Or.inr h.1
def w9 (ts:List Nat) (tm:Tm):Tm:=match ts with
 | []=>tm
 | t::ts=>wu (mask 0 (t::ts)) tm
def QE (τ:List (Nat × Nat)) (tm:Tm) (M:Mem) (ch:Tm) (M':Mem):Prop :=
 fT (wu 0 ch) λ l=>dL M' λ m=>Hr tm l=Hs τ l/\yp τ M m=yq τ m/\iI (keys τ m)=true
theorem C5 {k:List It} {ch:Tm} {M':Mem} {Q:Tm->Mem->Prop} (τ:List (Nat × Nat)) (he:QE τ tm M ch M') (h:AH L k ch M' Q):AH L k tm M Q:=by
 unfold QE at he;rw[cZ,pF]at he;obtain ⟨ht,hm,hn⟩:=he;intro σ st hr;have hg : ∀ k s c,c9 M' k=some (s,c)->c9 M (JP τ k)=some (s,P4 τ c):=λ k s c e=>zV hm k s c (by rw[aB];exact e)
 have Eu : ∀ k t c,c8 M' k t=some c->c8 M (JP τ k) t=some (P4 τ c):=by
  intro k t c e;obtain ⟨s,c0,g1,g2,g3⟩:=PS e;have:=hg k s c0 g1
  cases t with
  | zero=>rw[g2 rfl];exact GY this
  | succ i =>
   obtain ⟨rows,z,es,(rfl|⟨a,v,rfl⟩)|⟨w,rfl⟩,hr,rfl⟩:=g3 i rfl
   ·simp [c8,this,P4,hr]
   ·simp [c8,this,P4,hr]
   ·simp [c8,this,P4,hr]
 refine h (λ k t=>σ (JP τ k) t) st ⟨λ j => ?_,⟨?_,?_,?_,?_,?_⟩⟩
 ·have:=Qp ht j
  rw[eJ,lG,cond_false]at this;rcases this with e|e
  ·exact Or.inl e
  ·rcases hr.tm j with e'|e'
   ·left
    rw[e']at e;cases hv:tg ch j<;>rw[hv]at e<;>first|rfl|cases e
   ·right
    rw[e',e,AiZ]
 ·intro k s c e;exact hr.sat.site _ _ _ (hg k s c e)
 ·intro k t c e;rw[Adr];exact hr.sat.e7 _ _ _ (Eu k t c e)
 ·intro k t c e;exact hr.sat.old _ _ _ (Eu k t c e)
 ·intro k t k' t' c c' e e' hk
  obtain ⟨q1,q2⟩:=hr.sat.inj _ _ _ _ _ _ (Eu _ _ _ e) (Eu _ _ _ e') hk;obtain ⟨s,c0,g,_⟩:=PS e;obtain ⟨s',c0',g',_⟩:=PS e';exact ⟨Og hn (by rw[aB];exact g) (by rw[aB];exact g') q1,q2⟩
 ·intro k t c e hw
  exact hr.sat.low _ _ _ (Eu k t c e) (by cases c<;>exact hw)
theorem D0 {k:List It} {ch:Tm} {M':Mem} {Q:Tm->Mem->Prop} (τ:List (Nat × Nat)) (h:AH L k ch M' Q) (he:QE τ tm M ch M':=by (conv=>whnf);exact ⟨rfl,rfl,rfl⟩):AH L k tm M Q:=C5 τ he h
theorem Uu {k:List It} {Q:Tm->Mem->Prop} (h:AH L k (wu 0 tm) (ru M) Q):AH L k tm M Q:=by
 intro σ st hr;refine h σ st ⟨λ j => ?_,⟨?_,?_,?_,?_,?_⟩⟩
 ·rw[eJ,lG,cond_false];exact hr.tm j
 ·intro k s c e;rw[aB]at e;exact hr.sat.site _ _ _ e
 ·intro k t c e;rw[iG]at e;exact hr.sat.e7 _ _ _ e
 ·intro k t c e;rw[iG]at e;exact hr.sat.old _ _ _ e
 ·intro k t k' t' c c' e e' hk
  rw[iG]at e e';exact hr.sat.inj _ _ _ _ _ _ e e' hk
 ·intro k t c e hw;rw[iG]at e;exact hr.sat.low _ _ _ e hw
theorem JF {k:List It} {c:CP} {Q:Tm->Mem->Prop} (h:AH L (.code c :: .lp c::k) tm M Q):AH L (.lp c::k) tm M Q:=λ σ st hr=>rT.2 (h σ st hr)
theorem aY {α:Type} {k:List It} {c:CP} {Q:Tm->Mem->Prop} (m:α->Nat) (P:α->Prop) (vs:α->Tm) (Ms:α->Mem) (ts:List Nat) (τ:List (Nat × Nat)) (a:α)
  (he:QE τ tm M (vs a++w9 ts tm) (Ms a++M)) (hp:P a)
  (step : ∀ a,P a->(∀ a',m a'<m a->P a'->AH L (.lp c::k) (vs a'++w9 ts tm) (Ms a'++M) Q)->AH L (.code c :: .lp c::k) (vs a++w9 ts tm) (Ms a++M) Q):AH L (.lp c::k) tm M Q:=by
 have key : ∀ n a,m a<n->P a->AH L (.lp c::k) (vs a++w9 ts tm) (Ms a++M) Q:=by
  intro n;induction n with
  | zero=>intro a h;omega
  | succ n ih =>
   intro a ha hp;exact JF (step a hp λ a' h1 h2=>ih a' (by omega) h2)
 exact C5 τ he (key (m a+1) a (by omega) hp)
end
end Go.e6
namespace Go.e6
section
variable {α:Type} {enc:α->List AV} {l:List α} {L:Lib}
theorem BB {p q A B:Prop} (h1:p->A) (h2:q->B):A8 p q A B:=⟨h1,h2⟩
theorem B7 {p A:Prop} (h1:p) (h2:A):BT p A:=⟨h1,h2⟩
section
variable {K:AV->Prop} {a b:Int} {k k':IntKind} {op:BinOp}
theorem eV {v:AV} (h:FH op k a k' b=some v) (hk:K v):A5 op k a k' b K:=⟨v,h,hk⟩
theorem BS (hr : -9223372036854775808<=a+b/\a+b<=9223372036854775807) (hk:K (.int .i64 (a+b))):A5 .add .i64 a .i64 b K:=⟨_,by simp only[FH,if_true];rw[IntWalk.i64_in _ hr],hk⟩
theorem DC (hr : -9223372036854775808<=a-b/\a-b<=9223372036854775807) (hk:K (.int .i64 (a-b))):A5 .sub .i64 a .i64 b K:=⟨_,by simp only[FH,if_true];rw[IntWalk.i64_in _ hr],hk⟩
theorem FU (hr : -9223372036854775808<=a*b/\a*b<=9223372036854775807) (hk:K (.int .i64 (a*b))):A5 .mul .i64 a .i64 b K:=⟨_,by simp only[FH,if_true];rw[IntWalk.i64_in _ hr],hk⟩
theorem JN (h:0<=b/\b<=62) (hk:1<=pw b->pw b<=4611686018427387904->K (.int .i64 (pw b))):A5 .shl .i64 1 k' b K:=⟨_,AiL h,hk (PX b) (pV h.2)⟩
theorem X2 (hb:0<b) (h1:(0<=a\/a%b=0)->0<=a%b->a%b<b->K (.int .i64 (a%b))) (h2:a<0->a%b≠0->0<=a%b->a%b<b->K (.int .i64 (a%b-b))):A5 .rem .i64 a .i64 b K:=by
 have h5:0<=a%b:=Int.emod_nonneg _ (by omega);have h6:a%b<b:=Int.emod_lt_of_pos _ hb;have e:FH .rem .i64 a .i64 b=some (.int .i64 (a.tmod b)):=by simp only[FH];rw[if_pos ⟨trivial,by omega⟩]
 by_cases hc:0<=a\/a%b=0
 ·rw[Qr hb,if_pos hc]at e
  exact ⟨_,e,h1 hc h5 h6⟩
 ·rw[Qr hb,if_neg hc]at e
  exact ⟨_,e,h2 (by omega) (by omega) h5 h6⟩
theorem U4 (hb:0<b) (ha : -9223372036854775808<=a/\a<=9223372036854775807) (h1:(0<=a\/a%b=0)->K (.int .i64 (a/b))) (h2:a<0->a%b≠0->K (.int .i64 (a/b+1))):A5 .quo .i64 a .i64 b K:=by
 have hr:=AeW (m:=b) (by omega) ha;have e:FH .quo .i64 a .i64 b=some (.int .i64 (IntKind.i64.wrap (a.tdiv b))):=by simp only[FH];rw[if_pos ⟨trivial,by omega⟩]
 by_cases hc:0<=a\/a%b=0
 ·rw[Qn hb,if_pos hc,IntWalk.i64_in _ hr]at e
  exact ⟨_,e,h1 hc⟩
 ·have Ap9:a/b<0:=Int.ediv_neg_of_neg_of_pos (by omega) hb
  rw[Qn hb,if_neg hc,IntWalk.i64_in _ (by omega)]at e;exact ⟨_,e,h2 (by omega) (by omega)⟩
theorem Vx (h:0<=b/\b<=63) (hk:K (.int .i64 (a/pw b))):A5 .shr .i64 a k' b K:=⟨_,AiM h,hk⟩
theorem sN (hk:K (.int k (k.wrap (a+b)))):A5 .add k a k b K:=⟨_,by simp only[FH,if_true],hk⟩
theorem fJ (hk:K (.int k (k.wrap (a-b)))):A5 .sub k a k b K:=⟨_,by simp only[FH,if_true],hk⟩
theorem EW.neg (hr : -9223372036854775808 <= -a /\ -a<=9223372036854775807) (hk:K (.int .i64 (-a))):EW .neg .i64 a K:=⟨_,by simp only[XX];rw[show (0:Int)-a = -a by omega,IntWalk.i64_in _ hr],hk⟩
theorem EW.go {op:UnOp} {v:AV} (h:XX op (.int k a)=some v) (hk:K v):EW op k a K:=⟨v,h,hk⟩
end
theorem aZ {k:IntKind} {n:Int} {K:Int->Prop} (e:k.wrap n=n) (h:K n):BV k n K:=⟨by rw[e];exact h⟩
theorem DL {n:Int} {K:Int->Prop} (hr:0<=n/\n<=18446744073709551615) (h:K n):BV .u64 n K:=aZ (IntWalk.u64_in _ hr) h
theorem PN {n:Int} {K:Int->Prop} (hr : -9223372036854775808<=n/\n<=9223372036854775807) (h:K n):BV .i64 n K:=aZ (IntWalk.i64_in _ hr) h
theorem CT {a:Int} {z:Nat} {K:List AV->Prop} {e:α} (he:l[a.toNat]? = some e) (h0:0<=a) (hz:(enc e).length=z) (h:K (enc e)):BJ (l.map enc) a z K:=⟨h0,enc e,by simp [he],hz,h⟩
theorem kS {a:Int} {z:Nat} {K:List AV->Prop} (h0:0<=a/\a<l.length) (hz : ∀ e,(enc e).length=z) (h : ∀ e,l[a.toNat]? = some e->K (enc e)):BJ (l.map enc) a z K:=by
 have he:l[a.toNat]? = some (l[a.toNat]'(by omega)):=zE _;exact CT he h0.1 (hz _) (h _ he)
theorem bI {n z:Nat} {K:List AV->Prop} (hn:n<l.length) (hz : ∀ e,(enc e).length=z) (h : ∀ e,l[n]? = some e->K (enc e)):BJ (l.map enc) (n:Int) z K :=
 kS ⟨by omega,by omega⟩ hz h
theorem kK {i j n:Nat} {K:List AV->Prop} {f:α->List AV} (hi:i<l.length) (hp : ∀ e,part (enc e) j n=some (f e)) (h : ∀ e,l[i]? = some e->K (f e)):CS (l.map enc) (0+((i:Int)).toNat) j n K:=by
 have he:l[i]? = some l[i]:=zE _;rw[Nat.zero_add,Int.toNat_natCast];exact ⟨enc l[i],f l[i],by simp [he],hp _,h _ he⟩
theorem PA {i:Int} {j n:Nat} {K:List AV->Prop} {f:α->List AV} (hi:0<=i/\i<l.length) (hp : ∀ e,part (enc e) j n=some (f e)) (h : ∀ e,l[i.toNat]? = some e->K (f e)):CS (l.map enc) (0+i.toNat) j n K:=by
 have hl:i.toNat<l.length:=by omega
 have he:l[i.toNat]? = some l[i.toNat]:=zE _;rw[Nat.zero_add];exact ⟨enc l[i.toNat],f l[i.toNat],by rw[List.getElem?_map,he];rfl,hp _,h _ he⟩
theorem W5 {i:Nat} {vs:List AV} {K:List (List AV)->Prop} (e:α) (he:vs=enc e) (hz : ∀ x,(enc x).length=vs.length) (hi:i<l.length) (h:K ((l.set i e).map enc)):CR (l.map enc) (0+((i:Int)).toNat) 0 vs K:=by
 rw[Nat.zero_add,Int.toNat_natCast];refine ⟨enc l[i],by simp [zE hi],by rw[hz];omega,?_⟩;rw[show splice (enc l[i]) 0 vs=vs by simp [splice,<-hz l[i]],he,<-List.map_set];exact h
theorem kJ {i j n:Nat} {K:List AV->Prop} {e:α} {ds:List AV} (he:l[i]? = some e) (hp:part (enc e) j n=some ds) (h:K ds):CS (l.map enc) i j n K:=⟨enc e,ds,by simp [he],hp,h⟩
theorem AiX {cs vs:List AV} (h:cs.length=vs.length):splice cs 0 vs=vs:=by
 simp [splice,<-h]
theorem Wh {i:Nat} {vs:List AV} {K:List (List AV)->Prop} (e:α) (he:vs=enc e) (hz : ∀ x,(enc x).length=vs.length) (hi:i<l.length) (h:K ((l.set i e).map enc)):CR (l.map enc) i 0 vs K:=by
 refine ⟨enc l[i],by simp [zE hi],by rw[hz];omega,?_⟩;rw[AiX (hz _),he,<-List.map_set];exact h
theorem NQ {a b:Int} {bytes:Nat} {zero:List AV} {K:List (List AV)->Nat->Prop} (x:α) (n:Nat) (hx:zero=enc x) (hn:a=n) (hr:a<=b/\b*bytes<=140737488355328/\b<=9223372036854775807) (h:K ((List.replicate n x).map enc) n):EU a b bytes zero K:=by
 subst hn hx;refine ⟨⟨by omega,hr.1,by simpa [IW] using hr.2.1,hr.2.2⟩,?_⟩;simpa using h
theorem BR {K:Nat->Prop} (h:K l.length):BM (l.map enc) K:=⟨by simpa using h⟩
theorem G3 {len z bytes:Nat} {vs:List AV} {K:List (List AV)->Nat->Prop} (e:α) (he:vs=enc e) (hl:len=l.length) (hz:vs.length=z) (hr:(l.length+1)*bytes<=140737488355328) (db:l.length+1<=9223372036854775807) (h:K ((l++[e]).map enc) (l++[e]).length):DK (l.map enc) len [vs] z bytes K:=by
 subst hl;refine ⟨by simp,by simpa using hz,by simpa [IW] using hr,by simpa using db,?_⟩;rw[zT (by simp)];simpa [he] using h
theorem rV {len z bytes:Nat} {l':List α} {K:List (List AV)->Nat->Prop} (hl:len=l.length) (hz : ∀ x,(enc x).length=z) (hr:(l.length+l'.length)*bytes<=140737488355328) (db:l.length+l'.length<=9223372036854775807) (h:K ((l++l').map enc) (l++l').length):DK (l.map enc) len (l'.map enc) z bytes K:=by
 subst hl;refine ⟨by simp,by simp [hz],by simpa [IW] using hr,by simpa using db,?_⟩;rw[zT (by simp)];simpa using h
theorem Yk {z bytes:Nat} {vs:List AV} {K:List (List AV)->Nat->Prop} (e:α) (he:vs=enc e) (hz:vs.length=z) (hb:bytes<=140737488355328) (h:K ([e].map enc) 1):EE [vs] z bytes K :=
 ⟨by simpa using hz,by simpa [IW] using hb,by simp,by simpa [he] using h⟩
theorem LC {z bytes:Nat} {K:List (List AV)->Nat->Prop} (hz : ∀ x,(enc x).length=z) (hr:l.length*bytes<=140737488355328) (db:l.length<=9223372036854775807) (h:K (l.map enc) l.length):EE (l.map enc) z bytes K :=
 ⟨by simp [hz],by simpa [IW] using hr,by simpa using db,by simpa using h⟩
theorem fO {off len:Nat} {K:List (List AV)->Prop} (hl:off+len<=l.length) (h:K (((l.drop off).take len).map enc)):C8 (l.map enc) off len K :=
 ⟨by simpa using hl,by rw[<-List.map_drop,<-List.map_take];exact h⟩
theorem pQ : ∀ {e:List AV},JD e=true->SI e=true/\e.map nl=e
 | [],_=>⟨rfl,rfl⟩
 | v::r,h=>by
  have hv:JD r=true:=by cases v<;>simp only[JD]at h<;>first|cases h|exact h
  obtain ⟨h1,h2⟩:=pQ hv;cases v<;>simp only[JD]at h<;>first|cases h|exact ⟨h1,by rw[List.map_cons,h2];rfl⟩
theorem On : ∀ {es:List (List AV)},(∀ e∈es,JD e=true)->es.map (λ e=>e.map nl)=es
 | [],_=>rfl
 | e::r,h=>by rw[List.map_cons,(pQ (h e List.mem_cons_self)).2,On λ x hx=>h x (List.mem_cons_of_mem _ hx)]
theorem bS {es:List (List AV)} {off len:Nat} {K:List (List AV)->Prop} (hl:off+len<=es.length) (hz : ∀ e∈es,JD e=true) (h:K ((es.drop off).take len)):B5 es off len K :=
 ⟨hl,λ e he=>(pQ (hz e he)).1,by rw[On λ e he=>hz e (List.mem_of_mem_drop (List.mem_of_mem_take he))];exact h⟩
theorem GR {off len:Nat} {K:List (List AV)->Prop} (hz : ∀ x,JD (enc x)=true) (ho:off=0) (hl:len=l.length) (h:K (l.map enc)):B5 (l.map enc) off len K:=by
 subst hl ho;refine bS (by simp) (λ e he => ?_) (by rw[List.drop_zero,zT (by simp)];exact h);obtain ⟨x,_,rfl⟩:=List.mem_map.1 he;exact hz x
theorem N9 {off len:Nat} {K:List (List AV)->Prop} (hz : ∀ x,JD (enc x)=true) (hl:off+len<=l.length) (h:K (((l.drop off).take len).map enc)):B5 (l.map enc) off len K:=by
 refine bS (by simpa using hl) (λ e he => ?_) (by rw[<-List.map_drop,<-List.map_take];exact h);obtain ⟨x,_,rfl⟩:=List.mem_map.1 he;exact hz x
theorem FM {e:List AV} {K:List (List AV)->Prop} (h:K [e]):C8 [e] 0 1 K:=⟨by simp,h⟩
theorem PC {e:List AV} {K:List (List AV)->Prop} (h0:JD e=true) (h:K [e]):B5 [e] 0 1 K:=bS (by simp) (by simpa using h0) h
theorem bN {e e':List AV} {K:List (List AV)->Prop} (h0:JD e=true) (h1:JD e'=true) (h:K [e,e']):B5 [e,e'] 0 2 K:=bS (by simp) (by simpa using ⟨h0,h1⟩) h
section
variable {β:Type} {z:Nat} {ll:List (List β)} {en:β->List AV}
abbrev NY (z:Nat) (en:β->List AV) (ll:List (List β)):List (Option (Nat × List (List AV))):=ll.map λ r=>some (z,r.map en)
theorem Yt {i:Nat} {K:Option (Nat × List (List AV))->Prop} (hi:i<ll.length) (h : ∀ r,ll[i]? = some r->K (some (z,r.map en))):HE (NY z en ll) (0+((i:Int)).toNat) K:=by
 have he:ll[i]? = some ll[i]:=zE _;exact ⟨_,by rw[Nat.zero_add,Int.toNat_natCast,List.getElem?_map,he];rfl,h _ he⟩
theorem Yr {i:Nat} {K:Nat->List (List AV)->Prop} {r:List β} (hr:ll[i]? = some r) (h:K z (r.map en)):FL (NY z en ll) i K :=
 ⟨z,r.map en,by rw[List.getElem?_map,hr];rfl,h⟩
theorem Ys {i:Nat} {K:Nat->List (List AV)->Prop} {r:List β} (hr:ll[i]? = some r) (h:K z (r.map en)):FL (NY z en ll) (0+((i:Int)).toNat) K:=by
 rw[Nat.zero_add,Int.toNat_natCast];exact Yr hr h
theorem Wa {i:Nat} {r r':List β} {K:List (Option (Nat × List (List AV)))->Prop} (hl:r'.length=r.length) (h:K (NY z en (ll.set i r'))):HG (NY z en ll) (0+((i:Int)).toNat) z (r.map en) (r'.map en) K:=by
 rw[Nat.zero_add,Int.toNat_natCast];exact ⟨by simpa using hl,by simpa [NY,List.map_set] using h⟩
theorem Yi {len bytes:Nat} {r:List β} {K:List (Option (Nat × List (List AV)))->Nat->Prop} (hl:len=ll.length) (hr:(ll.length+1)*bytes<=140737488355328) (db:ll.length+1<=9223372036854775807) (h:K (NY z en (ll++[r])) (ll++[r]).length):G2 (NY z en ll) len (some (z,r.map en)) bytes K:=by
 subst hl;exact ⟨by simp,by simpa [IW] using hr,db,by simpa [NY] using h⟩
theorem Mu (q:Bool) : ∀ ll:List (List β),XU q (NY z en ll)=ll.map λ r=>[AV.sl q (r.map en)]
 | []=>rfl
 | r::l=>by simp only[NY,List.map_cons,XU];rw[show XU q (l.map λ r=>some (z,r.map en))=_ from Mu q l]
theorem sS {q:Bool} {off len:Nat} {K:List (List AV)->Prop} (hz : ∀ x,JD (en x)=true) (ho:off=0) (hl:len=ll.length) (h:K (ll.map λ r=>[AV.sl q (r.map en)])):G5 q (NY z en ll) off len K:=by
 refine ⟨ho,by simpa using hl,λ z' es hm e he => ?_,by rw[Mu];exact h⟩;obtain ⟨r,_,hr⟩:=List.mem_map.1 hm;simp only[Option.some.injEq,Prod.mk.injEq]at hr;obtain ⟨rfl,rfl⟩:=hr;obtain ⟨x,_,rfl⟩:=List.mem_map.1 he;exact hz x
end
theorem Ym {len:Nat} {a:Int} {K:Nat->Nat->Prop} (h0:0<=a/\a<=len) (h:K a.toNat len):DB (some a) none len K:=⟨a.toNat,len,⟨h0.1,rfl⟩,rfl,by omega,h⟩
theorem Yl {len:Nat} {b:Int} {K:Nat->Nat->Prop} (h0:0<=b/\b<=len) (h:K 0 b.toNat):DB none (some b) len K:=⟨0,b.toNat,rfl,⟨h0.1,h0.2,rfl⟩,by omega,h⟩
theorem ON {len:Nat} {a b:Int} {K:Nat->Nat->Prop} (h0:0<=a/\a<=b/\b<=len) (h:K a.toNat b.toNat):DB (some a) (some b) len K:=⟨a.toNat,b.toNat,⟨h0.1,rfl⟩,⟨by omega,by omega,rfl⟩,by omega,h⟩
theorem sR {z:Nat} {lo hi:Option Int} {K:List (List AV)->Prop} (hz : ∀ x,(enc x).length=z) (h:DB lo hi l.length λ a h=>K (((l.take h).drop a).map enc)):FG z (l.map enc) lo hi K:=by
 refine ⟨by simp [hz],?_⟩;rw[List.length_map];obtain ⟨a,b,h1,h2,h3,h4⟩:=h;refine ⟨a,b,h1,h2,h3,?_⟩;show K _;rw[<-List.map_take,<-List.map_drop];exact h4
theorem X3 {z k:Nat} {K:List (List AV)->Prop} (hz : ∀ x,(enc x).length=z) (hk:k<=l.length) (h:K ((l.take k).map enc)):FG z (l.map enc) none (some (k:Int)) K :=
 sR hz (Yl (by omega) (by simpa using h))
theorem Wg {z k:Nat} {K:List (List AV)->Prop} (hz : ∀ x,(enc x).length=z) (hk:k<=l.length) (h:K ((l.drop k).map enc)):FG z (l.map enc) (some (k:Int)) none K :=
 sR hz (Ym (by omega) (by simpa using h))
theorem AY {f:Nat} {vs:List AV} {K:AV->Prop} {r:AV} (h:Ev L f vs r) (hk:K r):AP L f vs K:=⟨r,h,hk⟩
theorem FI {f:Nat} {vs:List AV} {K:AV->Prop} {p:Prop} [Decidable p] (h:Ev L f vs (.bool (decide p))) (h1:p->K (.bool true)) (h2 : ¬ p->K (.bool false)):AP L f vs K:=by
 refine ⟨_,h,?_⟩;by_cases e:p
 ·rw[decide_eq_true e];exact h1 e
 ·rw[decide_eq_false e];exact h2 e
theorem BU {a r:AV} (h:a=r) (hc:B4 r):BF a r:=⟨h,hc⟩
theorem H8 {a r:Bool} (h:a=r):BF (.bool a) (.bool r):=⟨by rw[h],by simp [B4]⟩
theorem VY {p:Prop} [Decidable p] (h:p):BF (.bool true) (.bool (decide p)):=⟨by simp [h],by simp [B4]⟩
theorem QF {p:Prop} [Decidable p] (h : ¬ p):BF (.bool false) (.bool (decide p)):=⟨by simp [h],by simp [B4]⟩
theorem DY {k:IntKind} {a b:Int} (h:a=b):BF (.int k a) (.int k b):=⟨by rw[h],by simp [B4]⟩
theorem YB (h : ∀ x,DN (enc x)) : ∀ l:List α,GF (l.map enc)
 | []=>by simp [GF]
 | x::r=>by rw[List.map_cons,GF];exact ⟨h x,YB h r⟩
end
theorem uD (l:List Int):GF (l.map GJ):=YB (λ_=>by simp [DN,B4]) l
theorem QV {α:Type} {L:Lib} {k:List It} {cd:CP} {tm:Tm} {M:Mem} {Q:Tm->Mem->Prop} (m:α->Nat) (P:α->Prop) (vs:α->Tm) (Ms:α->Mem) (ts:List Nat) (τ:List (Nat × Nat)) (a:α)
  (he:QE τ tm M (vs a++w9 ts tm) (Ms a++M)) (hp:P a)
  (step : ∀ a,P a->(∀ a',m a'<m a->P a'->AH L (.lp cd::k) (vs a'++w9 ts tm) (Ms a'++M) Q)->AH L (.code cd :: .lp cd::k) (vs a++w9 ts tm) (Ms a++M) Q):AH L (.lp cd::k) tm M Q :=
 aY (α:=α) (λ x=>m x) (λ x=>P x) (λ x=>vs x) (λ x=>Ms x) ts τ a he hp λ a h ih=>step a h λ a' h1 h2=>ih a' h1 h2
theorem eR {α β:Type} {L:Lib} {k:List It} {cd:CP} {tm:Tm} {M:Mem} {Q:Tm->Mem->Prop} (m:α->β->Nat) (P:α->β->Prop) (vs:α->β->Tm) (Ms:α->β->Mem) (ts:List Nat) (τ:List (Nat × Nat)) (a:α) (b:β)
  (he:QE τ tm M (vs a b++w9 ts tm) (Ms a b++M)) (hp:P a b)
  (step : ∀ a b,P a b->(∀ a' b',m a' b'<m a b->P a' b'->AH L (.lp cd::k) (vs a' b'++w9 ts tm) (Ms a' b'++M) Q)->AH L (.code cd :: .lp cd::k) (vs a b++w9 ts tm) (Ms a b++M) Q):AH L (.lp cd::k) tm M Q :=
 aY (α:=α × β) (λ x=>m x.1 x.2) (λ x=>P x.1 x.2) (λ x=>vs x.1 x.2) (λ x=>Ms x.1 x.2) ts τ (a,b) he hp λ⟨a,b⟩ h ih=>step a b h λ a' b' h1 h2=>ih (a',b') h1 h2
theorem Uv {α β γ:Type} {L:Lib} {k:List It} {cd:CP} {tm:Tm} {M:Mem} {Q:Tm->Mem->Prop} (m:α->β->γ->Nat) (P:α->β->γ->Prop) (vs:α->β->γ->Tm) (Ms:α->β->γ->Mem) (ts:List Nat) (τ:List (Nat × Nat)) (a:α) (b:β) (c:γ)
  (he:QE τ tm M (vs a b c++w9 ts tm) (Ms a b c++M)) (hp:P a b c)
  (step : ∀ a b c,P a b c->(∀ a' b' c',m a' b' c'<m a b c->P a' b' c'->AH L (.lp cd::k) (vs a' b' c'++w9 ts tm) (Ms a' b' c'++M) Q)->AH L (.code cd :: .lp cd::k) (vs a b c++w9 ts tm) (Ms a b c++M) Q):AH L (.lp cd::k) tm M Q :=
 aY (α:=α × β × γ) (λ x=>m x.1 x.2.1 x.2.2) (λ x=>P x.1 x.2.1 x.2.2) (λ x=>vs x.1 x.2.1 x.2.2) (λ x=>Ms x.1 x.2.1 x.2.2) ts τ (a,b,c) he hp λ⟨a,b,c⟩ h ih=>step a b c h λ a' b' c' h1 h2=>ih (a',b',c') h1 h2
theorem rS {α β γ δ:Type} {L:Lib} {k:List It} {cd:CP} {tm:Tm} {M:Mem} {Q:Tm->Mem->Prop} (m:α->β->γ->δ->Nat) (P:α->β->γ->δ->Prop) (vs:α->β->γ->δ->Tm) (Ms:α->β->γ->δ->Mem) (ts:List Nat) (τ:List (Nat × Nat)) (a:α) (b:β) (c:γ) (d:δ)
  (he:QE τ tm M (vs a b c d++w9 ts tm) (Ms a b c d++M)) (hp:P a b c d)
  (step : ∀ a b c d,P a b c d->(∀ a' b' c' d',m a' b' c' d'<m a b c d->P a' b' c' d'->AH L (.lp cd::k) (vs a' b' c' d'++w9 ts tm) (Ms a' b' c' d'++M) Q)->AH L (.code cd :: .lp cd::k) (vs a b c d++w9 ts tm) (Ms a b c d++M) Q):AH L (.lp cd::k) tm M Q :=
 aY (α:=α × β × γ × δ) (λ x=>m x.1 x.2.1 x.2.2.1 x.2.2.2) (λ x=>P x.1 x.2.1 x.2.2.1 x.2.2.2) (λ x=>vs x.1 x.2.1 x.2.2.1 x.2.2.2) (λ x=>Ms x.1 x.2.1 x.2.2.1 x.2.2.2) ts τ (a,b,c,d) he hp λ⟨a,b,c,d⟩ h ih=>step a b c d h λ a' b' c' d' h1 h2=>ih (a',b',c',d') h1 h2
theorem Uw {α β γ δ ε ζ:Type} {L:Lib} {k:List It} {cd:CP} {tm:Tm} {M:Mem} {Q:Tm->Mem->Prop} (m:α->β->γ->δ->ε->ζ->Nat) (P:α->β->γ->δ->ε->ζ->Prop) (vs:α->β->γ->δ->ε->ζ->Tm) (Ms:α->β->γ->δ->ε->ζ->Mem) (ts:List Nat) (τ:List (Nat × Nat)) (a:α) (b:β) (c:γ) (d:δ) (e:ε) (f:ζ)
  (he:QE τ tm M (vs a b c d e f++w9 ts tm) (Ms a b c d e f++M)) (hp:P a b c d e f)
  (step : ∀ a b c d e f,P a b c d e f->(∀ a' b' c' d' e' f',m a' b' c' d' e' f'<m a b c d e f->P a' b' c' d' e' f'->AH L (.lp cd::k) (vs a' b' c' d' e' f'++w9 ts tm) (Ms a' b' c' d' e' f'++M) Q)->AH L (.code cd :: .lp cd::k) (vs a b c d e f++w9 ts tm) (Ms a b c d e f++M) Q):AH L (.lp cd::k) tm M Q :=
 aY (α:=α × β × γ × δ × ε × ζ) (λ x=>m x.1 x.2.1 x.2.2.1 x.2.2.2.1 x.2.2.2.2.1 x.2.2.2.2.2) (λ x=>P x.1 x.2.1 x.2.2.1 x.2.2.2.1 x.2.2.2.2.1 x.2.2.2.2.2) (λ x=>vs x.1 x.2.1 x.2.2.1 x.2.2.2.1 x.2.2.2.2.1 x.2.2.2.2.2) (λ x=>Ms x.1 x.2.1 x.2.2.1 x.2.2.2.1 x.2.2.2.2.1 x.2.2.2.2.2) ts τ (a,b,c,d,e,f) he hp λ⟨a,b,c,d,e,f⟩ h ih=>step a b c d e f h λ a' b' c' d' e' f' h1 h2=>ih (a',b',c',d',e',f') h1 h2
theorem HC {α:Type} {L:Lib} {k:List It} {cd:CP} {tm:Tm} {M:Mem} {Q:Tm->Mem->Prop} (m:α->Nat) (P:α->Prop) (vs:α->Tm) (Ms:α->Mem) (a:α)
  (hp:P a)
  (step : ∀ a,P a->(∀ a',m a'<m a->P a'->AH L (.lp cd::k) (vs a'++w9 [] tm) (Ms a'++M) Q)->AH L (.code cd :: .lp cd::k) (vs a++w9 [] tm) (Ms a++M) Q)
  (he:QE [] tm M (vs a++w9 [] tm) (Ms a++M):=by (conv=>whnf);exact ⟨rfl,rfl,rfl⟩):AH L (.lp cd::k) tm M Q :=
 QV m P vs Ms [] [] a he hp step
theorem PL {α β:Type} {L:Lib} {k:List It} {cd:CP} {tm:Tm} {M:Mem} {Q:Tm->Mem->Prop} (m:α->β->Nat) (P:α->β->Prop) (vs:α->β->Tm) (Ms:α->β->Mem) (a:α) (b:β)
  (hp:P a b)
  (step : ∀ a b,P a b->(∀ a' b',m a' b'<m a b->P a' b'->AH L (.lp cd::k) (vs a' b'++w9 [] tm) (Ms a' b'++M) Q)->AH L (.code cd :: .lp cd::k) (vs a b++w9 [] tm) (Ms a b++M) Q)
  (he:QE [] tm M (vs a b++w9 [] tm) (Ms a b++M):=by (conv=>whnf);exact ⟨rfl,rfl,rfl⟩):AH L (.lp cd::k) tm M Q :=
 eR m P vs Ms [] [] a b he hp step
theorem J1 {α β γ:Type} {L:Lib} {k:List It} {cd:CP} {tm:Tm} {M:Mem} {Q:Tm->Mem->Prop} (m:α->β->γ->Nat) (P:α->β->γ->Prop) (vs:α->β->γ->Tm) (Ms:α->β->γ->Mem) (a:α) (b:β) (c:γ)
  (hp:P a b c)
  (step : ∀ a b c,P a b c->(∀ a' b' c',m a' b' c'<m a b c->P a' b' c'->AH L (.lp cd::k) (vs a' b' c'++w9 [] tm) (Ms a' b' c'++M) Q)->AH L (.code cd :: .lp cd::k) (vs a b c++w9 [] tm) (Ms a b c++M) Q)
  (he:QE [] tm M (vs a b c++w9 [] tm) (Ms a b c++M):=by (conv=>whnf);exact ⟨rfl,rfl,rfl⟩):AH L (.lp cd::k) tm M Q :=
 Uv m P vs Ms [] [] a b c he hp step
theorem A7 {L:Lib} {Q:Tm->Mem->Prop} {c:CP} {k:List It} {tm:Tm} {M:Mem} (h:fT (wu 0 tm) λ tm=>dL M λ M=>XK L Q 500 (.code c::k) tm M):AH L (.code c::k) tm M Q:=by
 rw[cZ,pF]at h;exact Uu (sU h)
end Go.e6

namespace Go.e6
variable {L:Lib}
def D8 (N:Nat):BH->Bool
 | .t n=>Nat.blt n N
 | .c _=>true
def dR (N:Nat):F5->Bool
 | .a7 x=>D8 N x
 | .cn _ _=>true
 | .pick c a b=>D8 N c&&(D8 N a&&D8 N b)
 | .bin _ x y=>D8 N x&&D8 N y
 | .beq _ x y=>D8 N x&&D8 N y
 | .un _ x=>D8 N x
 | .conv _ x=>D8 N x
 | .box _ x=>D8 N x
 | .alloc _ _=>true
 | .build _ ps=>ps.all λ p=>D8 N p.2.2
 | .e5 _ _ ps=>ps.all (D8 N)
 | .a5 x _=>D8 N x
 | .oi x _ _ _=>D8 N x
 | .a9 _ _ x i=>D8 N x&&D8 N i
 | .ld _ _ x=>D8 N x
 | .st _ x v=>D8 N x&&D8 N v
 | .mk _ _ _ _ l c=>D8 N l&&D8 N c
 | .ig _ x lo hi=>D8 N x&&((lo.all (D8 N))&&(hi.all (D8 N)))
 | .ext x _=>D8 N x
 | .len x=>D8 N x
 | .mm _ xs=>xs.all (D8 N)
 | .app _ _ _ x y=>D8 N x&&D8 N y
 | .call _ xs=>xs.all (D8 N)
 | .g7 _ xs=>xs.all (D8 N)
 | .rp _ x=>D8 N x
 | .gv _ x=>D8 N x
 | .bad=>true
 | .pe _ _ xs=>xs.all (D8 N)
 | .o3 x xs=>D8 N x&&xs.all (D8 N)
 | .m6 _ xs=>xs.all (D8 N)
 | .o8 _ _ xs=>xs.all (D8 N)
 | .cw _ _ xs=>xs.all (D8 N)
 | .oa _ _ x y=>D8 N x&&D8 N y
 | .nr _ _ x v=>D8 N x&&D8 N v
def bW (N:Nat) (a:AI):Bool:=(a.dst.all λ d=>Nat.blt d N)&&((a.guard.all λ g=>Nat.blt g.1 N)&&dR N a.op)
def OS (N:Nat):CP->Bool
 | .skip=>true
 | .ops l _=>l.all (bW N)
 | .dr c ts _=>OS N c&&ts.all λ t=>Nat.blt t N
 | .scope c=>OS N c
 | .seq a b=>OS N a&&OS N b
 | .cond c a b=>D8 N c&&(OS N a&&OS N b)
 | .block _ c=>OS N c
 | .loop c=>OS N c
 | .exit _=>true
 | .ret=>true
def XG (N:Nat):It->Bool
 | .code c=>OS N c
 | .ns ts _=>ts.all λ t=>Nat.blt t N
 | .e7 _=>true
 | .lp c=>OS N c
structure Gh (N:Nat) (G T T':Tm):Prop where
 lo : ∀ j,j<N->g6 T' j=g6 T j
 hi : ∀ j,N<=j->g6 T' j=g6 G j
variable {N:Nat} {G:Tm}
theorem X7 {a b:Nat}:Nat.blt a b=true↔a<b:=by simp [Nat.blt];omega
theorem Gh.ev {st:St} {T':Tm} {o:BC} (h:Gh N G st.tm T') {x:BH} (hx:D8 N x=true):St.ev ⟨T',o⟩ x=st.ev x:=by
 cases x with
 | t n=>exact h.lo n (X7.1 hx)
 | c v=>rfl
theorem YS {f g:BH->AV} {xs:List BH} (h : ∀ x,D8 N x=true->f x=g x) (hx:xs.all (D8 N)=true):xs.map f=xs.map g:=by
 apply List.map_congr_left;intro x hm;exact h x (List.all_eq_true.1 hx x hm)
theorem AeY {C:Cl} {c5:List Nat} {ρ ρ':BH->AV} {own:BC} (h : ∀ x,D8 N x=true->ρ' x=ρ x) : ∀ (op:F5),dR N op=true->e8 C c5 ρ' own op=e8 C c5 ρ own op:=by
 intro op l9;cases op;case build zero ps =>
  have:(ps.map λ p=>(p.1,p.2.1,ρ' p.2.2))=ps.map λ p=>(p.1,p.2.1,ρ p.2.2):=by
   apply List.map_congr_left;intro p hm;rw[h _ (List.all_eq_true.1 l9 p hm)]
  simp only[e8,this]
 case e5 s b9 ps =>
  have:ps.mapM (λ x=>cellsOf (ρ' x))=ps.mapM (λ x=>cellsOf (ρ x)):=by
   have si:ps.all (D8 N)=true:=l9;clear l9;induction ps with
   | nil=>rfl
   | cons p r ih =>
    simp only[List.all_cons,Bool.and_eq_true]at si;simp only[List.mapM_cons,h _ si.1,ih si.2]
  simp only[e8,this]
 case mm m xs=>simp only[e8,YS h l9]
 case call f xs=>simp only[e8,YS h l9]
 case g7 f xs=>simp only[e8,YS h l9]
 case pe p f xs =>
  have:xs.mapM (λ x=>KO (ρ' x))=xs.mapM (λ x=>KO (ρ x)):=by
   have si:xs.all (D8 N)=true:=l9;clear l9;induction xs with
   | nil=>rfl
   | cons p r ih =>
    simp only[List.all_cons,Bool.and_eq_true]at si;simp only[List.mapM_cons,h _ si.1,ih si.2]
  simp only[e8,this]
 case m6 f xs=>simp only[e8,YS h l9]
 case o8 s f xs=>simp only[e8,YS h l9]
 case cw s f xs=>simp only[e8,YS h l9]
 case o3 x xs =>
  simp only[dR,Bool.and_eq_true]at l9;simp only[e8,YS h l9.2,h _ l9.1]
 case ig b9 x lo hi =>
  simp only[dR,Bool.and_eq_true]at l9;obtain ⟨h1,h2,h3⟩:=l9;cases lo<;>cases hi<;>simp only[Option.all_some,Option.all_none]at h2 h3<;>simp only[e8,h _ h1,h _,h2,h3]
 all_goals (simp only[dR,Bool.and_eq_true]at l9;simp only[e8,h _,l9])
theorem Gh.dst {T T':Tm} (h:Gh N G T T') {d:Nat} (hd:d<N) (v:AV):Gh N G (jy T d v) (jy T' d v):=by
 constructor
 ·intro j hj
  rw[eN,eN,h.lo j hj]
 ·intro j hj
  rw[eN,h.hi j hj,if_neg (by omega)]
theorem Gh.oe {T T':Tm} {o:BC} (h:Gh N G T T') {d:Option Nat} (hd:(d.all λ d=>Nat.blt d N)=true) (v:AV):((⟨T',o⟩:St).dst d v).own=((⟨T,o⟩:St).dst d v).own/\Gh N G ((⟨T,o⟩:St).dst d v).tm ((⟨T',o⟩:St).dst d v).tm:=by
 cases d with
 | none=>exact ⟨rfl,h⟩
 | some d=>exact ⟨rfl,h.dst (X7.1 hd) v⟩
theorem Ai0 {C:Cl} {a:AI} (ha:bW N a=true) {T T':Tm} {o:BC} (h:Gh N G T T') {s':St} (hs:EL C a ⟨T',o⟩=some s') : ∃ s,EL C a ⟨T,o⟩=some s/\s'.own=s.own/\Gh N G s.tm s'.tm:=by
 simp only[bW,Bool.and_eq_true]at ha;obtain ⟨h1,h2,h3⟩:=ha;have hg:IR ⟨T',o⟩ a.guard=IR ⟨T,o⟩ a.guard:=by
  cases hgg:a.guard with
  | none=>rfl
  | some g =>
   rw[hgg]at h2;simp only[IR,h.lo _ (X7.1 h2)]
 have he:=AeY (C:=C) (c5:=a.c5) (own:=o) (ρ:=St.ev ⟨T,o⟩) (ρ':=St.ev ⟨T',o⟩) (λ x hx=>Gh.ev (st:=⟨T,o⟩) h hx) a.op h3;unfold EL at hs ⊢;rw[hg,he]at hs;cases Ct:IR ⟨T,o⟩ a.guard with
 | none=>rw[Ct]at hs;cases hs
 | some b =>
  rw[Ct]at hs;cases b with
  | false =>
   simp only[Option.some.injEq]at hs ⊢;subst hs;exact ⟨_,rfl,h.oe h1 _⟩
  | true =>
   simp only at hs ⊢;cases Rt:e8 C a.c5 (St.ev ⟨T,o⟩) o a.op with
   | none=>rw[Rt]at hs;cases hs
   | some e =>
    rw[Rt]at hs;simp only[Option.map_some,Option.some.injEq]at hs ⊢;subst hs;refine ⟨_,rfl,?_⟩;cases e with
    | val v=>exact h.oe h1 v
    | new s b v=>exact ⟨rfl,(h.oe (o:=o) h1 _).2⟩
    | yv s b v=>exact ⟨rfl,(h.oe (o:=o) h1 _).2⟩
    | dt v o'=>exact ⟨rfl,(h.oe (o:=o) h1 _).2⟩
    | q6 s x=>exact ⟨rfl,(h.oe (o:=o) h1 _).2⟩
    | wm s x v=>exact ⟨rfl,(h.oe (o:=o) h1 _).2⟩
theorem Qe {C:Cl} : ∀ {l:List AI},l.all (bW N)=true -> ∀ {T T':Tm} {o:BC},Gh N G T T' -> ∀ {s':St},FB C l ⟨T',o⟩=some s' -> ∃ s,FB C l ⟨T,o⟩=some s/\s'.own=s.own/\Gh N G s.tm s'.tm
 | [],_,T,T',o,h,s',hs=>by
  simp only[FB,Option.some.injEq]at hs;subst hs;exact ⟨_,rfl,rfl,h⟩
 | a::l,ha,T,T',o,h,s',hs=>by
  simp only[List.all_cons,Bool.and_eq_true]at ha;simp only[FB]at hs;cases h1:EL C a ⟨T',o⟩ with
  | none=>rw[h1]at hs;cases hs
  | some s1 =>
   rw[h1]at hs;obtain ⟨s2,e1,e2,e3⟩:=Ai0 ha.1 h h1;obtain ⟨T1,o1⟩:=s1;obtain ⟨T2,o2⟩:=s2;simp only at e2 e3;subst e2;obtain ⟨s3,f1,f2,f3⟩:=Qe ha.2 e3 hs;exact ⟨s3,by simp only[FB,e1,f1],f2,f3⟩
theorem cX {id:Nat} : ∀ {k k':List It},k.all (XG N)=true->IQ id k=some k'->k'.all (XG N)=true
 | [],_,_,h=>by simp [IQ]at h
 | it::k,k',hk,h=>by
  simp only[List.all_cons,Bool.and_eq_true]at hk;cases it with
  | e7 i =>
   simp only[IQ]at h;split at h
   ·cases h;exact hk.2
   ·exact cX hk.2 h
  | code c=>simp only[IQ]at h;exact cX hk.2 h
  | ns a b=>simp only[IQ]at h;exact cX hk.2 h
  | lp c=>simp only[IQ]at h;exact cX hk.2 h
theorem O4 {C:Cl} : ∀ (n:Nat) {k:List It},k.all (XG N)=true -> ∀ {T T':Tm} {o:BC},Gh N G T T' -> ∀ {s':St},run C n k ⟨T',o⟩=some s' -> ∃ s,run C n k ⟨T,o⟩=some s/\s'.own=s.own/\Gh N G s.tm s'.tm
 | 0,k,_,T,T',o,_,s',hs=>by simp [run]at hs
 | n+1,[],_,T,T',o,h,s',hs=>by
  simp only[run,Option.some.injEq]at hs ⊢;subst hs;exact ⟨_,rfl,rfl,h⟩
 | n+1,.e7 _::k,hk,T,T',o,h,s',hs=>by
  simp only[List.all_cons,Bool.and_eq_true]at hk;simp only[run]at hs ⊢;exact O4 n hk.2 h hs
 | n+1,.ns ts ss::k,hk,T,T',o,h,s',hs=>by
  simp only[List.all_cons,Bool.and_eq_true]at hk;simp only[run]at hs ⊢;refine O4 n hk.2 ⟨λ j hj => ?_,λ j hj => ?_⟩ hs
  ·rw[aS,aS,h.lo j hj]
  ·rw[aS,h.hi j hj,if_neg]
   intro hc;have:=List.all_eq_true.1 hk.1 j (by simpa using hc)
   have:=X7.1 this
   omega
 | n+1,.lp c::k,hk,T,T',o,h,s',hs=>by
  simp only[run]at hs ⊢;have jc:=hk;simp only[List.all_cons,Bool.and_eq_true]at hk;exact O4 n (by simp only[List.all_cons,Bool.and_eq_true];exact ⟨hk.1,hk.1,hk.2⟩) h hs
 | n+1,.code c::k,hk,T,T',o,h,s',hs=>by
  simp only[List.all_cons,Bool.and_eq_true]at hk;obtain ⟨hc,hk⟩:=hk;cases c with
  | skip=>simp only[run]at hs ⊢;exact O4 n hk h hs
  | ops l d =>
   simp only[run]at hs ⊢;cases h1:FB C l ⟨T',o⟩ with
   | none=>rw[h1]at hs;cases hs
   | some s1 =>
    rw[h1]at hs;obtain ⟨s2,e1,e2,e3⟩:=Qe (show l.all (bW N)=true from hc) h h1;obtain ⟨T1,o1⟩:=s1;obtain ⟨T2,o2⟩:=s2;simp only at e2 e3;subst e2;rw[e1];exact O4 n hk e3 hs
  | dr c ts ss =>
   simp only[run]at hs ⊢;simp only[XG,OS,Bool.and_eq_true]at hc;exact O4 n (by simp only[List.all_cons,Bool.and_eq_true];exact ⟨hc.1,hc.2,hk⟩) h hs
  | scope c =>
   simp only[run]at hs ⊢;exact O4 n (by simp only[List.all_cons,Bool.and_eq_true];exact ⟨hc,hk⟩) h hs
  | seq a b =>
   simp only[run]at hs ⊢;simp only[XG,OS,Bool.and_eq_true]at hc;exact O4 n (by simp only[List.all_cons,Bool.and_eq_true];exact ⟨hc.1,hc.2,hk⟩) h hs
  | cond x a b =>
   simp only[XG,OS,Bool.and_eq_true]at hc;simp only[run,Gh.ev (st:=⟨T,o⟩) h hc.1]at hs ⊢;cases hx:St.ev ⟨T,o⟩ x<;>rw[hx]at hs<;>try (simp at hs;done)
   rename_i q;cases q
   ·exact O4 n (by simp only[List.all_cons,Bool.and_eq_true];exact ⟨hc.2.2,hk⟩) h hs
   ·exact O4 n (by simp only[List.all_cons,Bool.and_eq_true];exact ⟨hc.2.1,hk⟩) h hs
  | block id c =>
   simp only[run]at hs ⊢;exact O4 n (by simp only[List.all_cons,Bool.and_eq_true];exact ⟨hc,rfl,hk⟩) h hs
  | loop c =>
   simp only[run]at hs ⊢;exact O4 n (by simp only[List.all_cons,Bool.and_eq_true];exact ⟨hc,hc,hk⟩) h hs
  | exit id =>
   simp only[run]at hs ⊢;cases he:IQ id k with
   | none=>rw[he]at hs;cases hs
   | some k' =>
    rw[he]at hs;exact O4 n (cX hk he) h hs
  | ret =>
   simp only[run,Option.some.injEq]at hs ⊢;subst hs;exact ⟨_,rfl,rfl,h⟩
def J0 (N:Nat):Tm->Tm
 | []=>[]
 | (i,v)::r=>(N+i,v)::J0 N r
def gh (N:Nat):Tm->Tm
 | []=>[]
 | (i,v)::r=>bif Nat.ble N i then (Nat.sub i N,v)::gh N r else gh N r
theorem rK (N j:Nat) : ∀ T:Tm,g6 (J0 N T) (N+j)=g6 T j
 | []=>rfl
 | (i,v)::r=>by
  have ih:=rK N j r;simp only[J0,g6,ih];by_cases h:j=i
  ·simp [h]
  ·rw[if_neg h,if_neg (by omega)]
theorem rL {N j:Nat} (hj:j<N) : ∀ T:Tm,g6 (J0 N T) j = .any
 | []=>rfl
 | (i,v)::r=>by
  simp only[J0,g6,rL hj r];rw[if_neg (by omega)]
theorem rI (N j:Nat) : ∀ T:Tm,g6 (gh N T) j=g6 T (N+j)
 | []=>rfl
 | (i,v)::r=>by
  have ih:=rI N j r;simp only[gh];cases h:Nat.ble N i
  ·have h1 : ¬ N<=i:=λ e=>by rw[Nat.ble_eq_true_of_le e]at h;cases h
   simp only[cond,g6,ih];rw[if_neg (by omega)]
  ·have h1:=Nat.le_of_ble_eq_true h
   simp only[cond,g6,ih];by_cases h2:j=i-N
   ·rw[if_pos (show j=Nat.sub i N from h2),if_pos (by omega)]
   ·rw[if_neg (show ¬ j=Nat.sub i N from h2),if_neg (by omega)]
def RP (f:AV->AV):Tm->Tm
 | []=>[]
 | (i,v)::r=>(i,f v)::RP f r
theorem QA {f:AV->AV} (hf:f .any = .any) (j:Nat) : ∀ T:Tm,g6 (RP f T) j=f (g6 T j)
 | []=>hf.symm
 | (i,v)::r=>by
  simp only[RP,g6,QA hf j r];by_cases h:j=i<;>simp [h]
theorem oQ (f:AV->AV) : ∀ (i:Nat) (vs:List AV),D7 i (vs.map f)=RP f (D7 i vs)
 | _,[]=>rfl
 | i,v::r=>by simp only[List.map_cons,D7,RP,oQ f (i+1) r]
theorem eK (j:Nat) (b:Tm) : ∀ a:Tm,((a.any λ p=>p.1 == j)=true/\g6 (a++b) j=g6 a j)\/((a.any λ p=>p.1 == j)=false/\g6 (a++b) j=g6 b j)
 | []=>Or.inr ⟨rfl,rfl⟩
 | (i,v)::r=>by
  by_cases h:j=i
  ·subst h
   exact Or.inl (by simp [g6])
  ·have h' : ¬ i=j:=λ e=>h e.symm
   rcases eK j b r with ⟨h1,h2⟩|⟨h1,h2⟩
   ·exact Or.inl ⟨by rw[List.any_cons,h1,Bool.or_true],by simp only[List.cons_append,g6,if_neg h,h2]⟩
   ·exact Or.inr ⟨by rw[List.any_cons,h1,Bool.or_false];simpa using h',by simp only[List.cons_append,g6,if_neg h,h2]⟩
theorem oP (j:Nat) : ∀ (i:Nat) (vs:List AV),((D7 i vs).any λ p=>p.1 == j)=true->j<i+vs.length
 | _,[],h=>by simp [D7]at h
 | i,v::r,h=>by
  simp only[D7,List.any_cons,Bool.or_eq_true,beq_iff_eq]at h;rcases h with h|h
  ·simp;omega
  ·have:=oP j (i+1) r h
   simp;omega
theorem rJ (j:Nat) : ∀ (i:Nat) (vs:List AV),((D7 i vs).any λ p=>p.1 == j)=false->g6 (D7 i vs) j = .any
 | _,[],_=>rfl
 | i,v::r,h=>by
  simp only[D7,List.any_cons,Bool.or_eq_false_iff,beq_eq_false_iff_ne]at h;simp only[D7,g6];rw[if_neg λ e=>h.1 e.symm,rJ j (i+1) r h.2]
theorem QT (σ:IY):CI σ .any = .any:=rfl
def XQ (tm:Tm):List PM->Option (List AV)
 | []=>some []
 | .tmp t::r=>match O3 (tg tm t),XQ tm r with
  | some v,some vs=>some (v::vs)
  | _,_=>none
 | .cell _ _ _::_=>none
def dY (N:Nat):List PM->Bool
 | []=>true
 | .tmp t::r=>Nat.blt t N&&dY N r
 | .cell _ _ _::_=>false
def sO (N:Nat) (fn:AFn) (tm:Tm) (K:AV->Mem->Prop) (ch:Tm) (M':Mem):Prop:=gh N ch=tm /\ ∃ rs,XQ ch fn.res=some rs/\K (OG rs) M'
theorem Ain {σ:IY} {v u:AV} (h:O3 v=some u):u=v/\CI σ v=C0 σ v/\O3 (CI σ v)=some (CI σ v):=by
 cases v<;>simp [O3]at h<;>subst h<;>exact ⟨rfl,rfl,rfl⟩
theorem qC {σ:IY} {ch:Tm} {M:Mem} {s s':St} (hr:RX σ ch M s') (nu : ∀ j,j<N->g6 s'.tm j=g6 s.tm j) : ∀ {res:List PM} {rs:List AV},dY N res=true->XQ ch res=some rs->res.mapM (HY s)=some (rs.map (C0 σ)) /\ ∀ v∈rs,CI σ v=C0 σ v
 | [],rs,_,h=>by
  simp only[XQ,Option.some.injEq]at h;subst h;exact ⟨rfl,by simp⟩
 | .cell _ _ _::_,_,_,h=>by simp [XQ]at h
 | .tmp t::r,rs,hl,h=>by
  simp only[dY,Bool.and_eq_true]at hl;simp only[XQ]at h;cases h1:O3 (tg ch t) with
  | none=>rw[h1]at h;simp at h
  | some v =>
   cases h2:XQ ch r with
   | none=>rw[h1,h2]at h;simp at h
   | some vs =>
    rw[h1,h2]at h;simp only[Option.some.injEq]at h;subst h;obtain ⟨i1,i2⟩:=qC hr nu hl.2 h2;obtain ⟨rfl,j2,j3⟩:=Ain (σ:=σ) h1;have:g6 s.tm t=CI σ (tg ch t):=by
     rcases hr.tm t with e|e
     ·rw[e]at h1;cases h1
     ·rw[<-nu t (X7.1 hl.1),e]
    refine ⟨?_,?_⟩
    ·rw[j2]at j3 this
     simp only[List.mapM_cons,HY,this,j3,i1,List.map_cons];rfl
    ·intro v hv
     simp only[List.mem_cons]at hv;rcases hv with rfl|hv
     ·exact j2
     ·exact i2 v hv
theorem Mo {σ:IY} {rs:List AV} (h : ∀ v∈rs,CI σ v=C0 σ v):OG (rs.map (C0 σ))=CI σ (OG rs):=by
 match rs,h with
 | [],_=>rfl
 | [v],h=>exact (h v (by simp)).symm
 | _::_::_,_=>rfl
theorem OO {f:Nat} {fn:AFn} {vs:List AV} {tm:Tm} {M:Mem} {K:AV->Mem->Prop} (N:Nat) (hL:L f=some fn) (hp:Nat.beq vs.length fn.cb=true) (hN:(Nat.ble fn.cb N&&(OS N fn.body&&dY N fn.res))=true)
  (h:AH L [.code fn.body] (D7 0 vs++J0 N tm) M (sO N fn tm K)):CG L f vs tm M K:=by
 intro σ own hs;simp only[Bool.and_eq_true]at hN;obtain ⟨n1,n2,n3⟩:=hN;have n1:=Nat.le_of_ble_eq_true n1;have hp:vs.length=fn.cb:=Nat.eq_of_beq_eq_true hp;have Ks:RX σ (D7 0 vs++J0 N tm) M ⟨RP (CI σ) (D7 0 vs++J0 N tm),own⟩:=⟨λ j=>Or.inr (by rw[P9];exact QA (QT σ) j _),hs⟩;obtain ⟨n,c,s',hr,σ',ch,M',hR,hg,rs,Ko,hk⟩:=h σ _ Ks;have Jp:Gh N (RP (CI σ) (J0 N tm)) (D7 0 (vs.map (CI σ))) (RP (CI σ) (D7 0 vs++J0 N tm)):=by
  constructor
  ·intro j hj
   rw[oQ,QA (QT σ),QA (QT σ)];rcases eK j (J0 N tm) (D7 0 vs) with ⟨_,e⟩|⟨hn,e⟩
   ·rw[e]
   ·rw[e,rL hj,rJ j 0 vs hn]
  ·intro j hj
   rw[QA (QT σ),QA (QT σ)];rcases eK j (J0 N tm) (D7 0 vs) with ⟨hn,e⟩|⟨_,e⟩
   ·have:=oP j 0 vs hn
    omega
   ·rw[e]
 obtain ⟨s,r1,r2,r3⟩:=O4 n (by simp [XG,n2]) Jp hr;obtain ⟨i1,i2⟩:=qC (s:=s) hR r3.lo n3 Ko;refine ⟨OG rs,s.own,σ',M',J2.intro hL (by simpa using hp) ⟨n,c,s,r1,?_,rfl⟩,?_,?_,hk⟩
 ·rw[i1,Option.map_some,Mo i2]
 ·rw[<-r2];exact hR.sat
 ·intro j
  have e1:tg tm j=tg ch (N+j):=by rw[P9,P9,<-hg,rI]
  rcases hR.tm (N+j) with e|e
  ·rw[e1,e];rfl
  ·rw[e1,<-e,r3.hi (N+j) (by omega),QA (QT σ),rK,<-P9,e1]
theorem bV {α:Type} {enc:α->List AV} {l:List α} {i:Nat} {vs:List AV} {K:List (List AV)->Prop} (n:Nat) (e:α) (hn:i=n) (he:vs=enc e) (hz : ∀ x,(enc x).length=vs.length) (hi:n<l.length) (h:K ((l.set n e).map enc)):CR (l.map enc) i 0 vs K:=by
 subst hn;exact Wh e he hz hi h
theorem NN {x:Int} {len:Nat} {K:Nat->Nat->Prop} (h:Nat) (hx:x=h) (hl:h<=len) (hk:K 0 h):DB none (some x) len K:=⟨0,h,rfl,⟨by omega,by omega,by omega⟩,by omega,hk⟩
end Go.e6

namespace Go.e6
section
variable {K:AV->Prop} {a b:Nat} {k':IntKind}
theorem wrap_u32 (n:Nat):IntKind.u32.wrap (n:Int)=((n%4294967296:Nat):Int):=by rw[IntKind.wrap_u32];omega
theorem Aju (n:Nat):IntKind.u64.wrap (n:Int)=((n%18446744073709551616:Nat):Int):=by
 simp [IntKind.wrap,IntKind.bits,IntKind.signed]
theorem JS (h:a+b<=18446744073709551615) (hk:K (.int .u64 ((a+b:Nat):Int))):A5 .add .u64 (a:Int) .u64 (b:Int) K :=
 ⟨_,by simp only[FH,if_true];rw[IntWalk.u64_in _ (by omega)],by simpa using hk⟩
theorem PB (h:b<=a) (h2:a<=18446744073709551615) (hk:K (.int .u64 ((a-b:Nat):Int))):A5 .sub .u64 (a:Int) .u64 (b:Int) K :=
 ⟨_,by simp only[FH,if_true];rw[IntWalk.u64_in _ (by omega)],by rw[show (a:Int)-b=((a-b:Nat):Int) by omega];exact hk⟩
theorem fH (h:b<=18446744073709551616) (hk:K (.int .u64 ((GZ a b:Nat):Int))):A5 .sub .u64 (a:Int) .u64 (b:Int) K :=
 eV (v := .int .u64 (IntKind.u64.wrap ((a:Int)-b))) (by simp only[FH,if_true]) (by
  have e:IntKind.u64.wrap ((a:Int)-b)=((GZ a b:Nat):Int):=by
   rw[ZD];simp only[IntKind.wrap,IntKind.bits,IntKind.signed];simp;omega
  rw[e];exact hk)
theorem V0 (h:a*b<=18446744073709551615) (hk:K (.int .u64 ((a*b:Nat):Int))):A5 .mul .u64 (a:Int) .u64 (b:Int) K :=
 ⟨_,by simp only[FH,if_true];rw[<-Int.natCast_mul,IntWalk.u64_in _ (by omega)],hk⟩
theorem fE (h:0<b) (h2:a<=18446744073709551615) (hk:K (.int .u64 ((a/b:Nat):Int))):A5 .quo .u64 (a:Int) .u64 (b:Int) K:=by
 refine ⟨_,by simp only[FH];rw[if_pos ⟨trivial,by omega⟩],?_⟩;rw[IntWalk.u64_quo _ _ ⟨by omega,by omega,by omega⟩,<-Int.natCast_ediv];exact hk
theorem bH (h:0<b) (hk:K (.int .u64 ((a%b:Nat):Int))):A5 .rem .u64 (a:Int) .u64 (b:Int) K:=by
 refine ⟨_,by simp only[FH];rw[if_pos ⟨trivial,by omega⟩],?_⟩;rw[IntWalk.rem_in _ _ (by omega),<-Int.natCast_emod];exact hk
theorem AiK {k:IntKind} {n:Nat} (hn:n<=k.bits):FH .shl k (a:Int) k' (n:Int)=some (.int k (k.wrap ((a*2^n:Nat):Int))):=by
 simp only[FH];rw[if_neg (by omega),Int.toNat_natCast,Nat.min_eq_left hn];simp
theorem AiN {k:IntKind} {n:Nat} (hn:n<=k.bits):FH .shr k (a:Int) k' (n:Int)=some (.int k ((a/2^n:Nat):Int)):=by
 simp only[FH];rw[if_neg (by omega),Int.toNat_natCast,Nat.min_eq_left hn,Int.fdiv_eq_ediv_of_nonneg _ (Int.le_of_lt (Int.pow_pos (by omega)))];simp
theorem kQ {k:IntKind} {n:Nat} (hn:n<=k.bits) (hk:K (.int k (k.wrap ((a*2^n:Nat):Int)))):A5 .shl k (a:Int) k' (n:Int) K:=⟨_,AiK hn,hk⟩
theorem V3 {k:IntKind} {n:Nat} (hn:n<=k.bits) (hk:K (.int k ((a/2^n:Nat):Int))):A5 .shr k (a:Int) k' (n:Int) K:=⟨_,AiN hn,hk⟩
theorem U3 (h:a<=4294967295) (hk:K (.int .u64 ((a*4294967296:Nat):Int))):A5 .shl .u64 (a:Int) k' 32 K:=by
 refine kQ (n:=32) (by decide) ?_;rw[Aju,show a*2^32%18446744073709551616=a*4294967296 by omega];exact hk
theorem IK (hk:K (.int .u64 ((a/4294967296:Nat):Int))):A5 .shr .u64 (a:Int) k' 32 K:=V3 (n:=32) (by decide) hk
theorem fG (hk:K (.int .u64 ((a/9223372036854775808:Nat):Int))):A5 .shr .u64 (a:Int) k' 63 K:=V3 (n:=63) (by decide) hk
theorem Yx (hk:K (.int .u64 ((a/4:Nat):Int))):A5 .shr .u64 (a:Int) k' 2 K:=V3 (n:=2) (by decide) hk
theorem Yw (hk:K (.int .u32 ((a/65536:Nat):Int))):A5 .shr .u32 (a:Int) k' 16 K:=V3 (n:=16) (by decide) hk
theorem Yy (hk:K (.int .u32 ((a/256:Nat):Int))):A5 .shr .u32 (a:Int) k' 8 K:=V3 (n:=8) (by decide) hk
theorem Yv (hk:K (.int .u32 ((a/2:Nat):Int))):A5 .shr .u32 (a:Int) k' 1 K:=V3 (n:=1) (by decide) hk
theorem pO (w n:Nat):(BitVec.ofInt w (n:Int)).toNat=n%2^w:=by rw[BitVec.toNat_ofInt];omega
theorem AhW {n x y:Nat} (hx:x%2^n=0) (hy:y<2^n):x ||| y=x+y:=by
 have e:x=2^n*(x/2^n):=by have:=Nat.mod_add_div x (2^n);omega
 rw[e,<-Nat.two_pow_add_eq_or_of_lt hy]
theorem kO {k:IntKind} (n:Nat) (hx:a%2^n=0) (hy:b<2^n) (h:a+b<2^k.bits) (hw:k.wrap ((a+b:Nat):Int)=((a+b:Nat):Int)) (hk:K (.int k ((a+b:Nat):Int))):A5 .or k (a:Int) k (b:Int) K:=by
 refine eV (v := .int k (k.wrap (BitVec.ofInt k.bits (a:Int) ||| BitVec.ofInt k.bits (b:Int)).toNat)) (by simp only[FH,if_true]) ?_;rw[BitVec.toNat_or,pO,pO,Nat.mod_eq_of_lt (by omega),Nat.mod_eq_of_lt (by omega),AhW hx hy,hw];exact hk
theorem V2 (h:a%4294967296=0/\b<4294967296/\a+b<=18446744073709551615) (hk:K (.int .u64 ((a+b:Nat):Int))):A5 .or .u64 (a:Int) .u64 (b:Int) K :=
 kO 32 h.1 h.2.1 (show a+b<18446744073709551616 by omega) (IntWalk.u64_in _ (by omega)) hk
theorem sJ (h:a<=18446744073709551615) (hk:K (.int .u64 ((a%4294967296:Nat):Int))):A5 .and .u64 (a:Int) .u64 4294967295 K:=by
 refine eV (v := .int .u64 (IntKind.u64.wrap (BitVec.ofInt IntKind.u64.bits (a:Int) &&& BitVec.ofInt IntKind.u64.bits 4294967295).toNat)) (by simp only[FH,if_true]) ?_;rw[BitVec.toNat_and,pO,show (BitVec.ofInt IntKind.u64.bits 4294967295).toNat=2^32-1 by decide,Nat.and_two_pow_sub_one_eq_mod,show a%2^IntKind.u64.bits=a from Nat.mod_eq_of_lt (show a<18446744073709551616 by omega),IntWalk.u64_in _ (by omega)];exact hk
theorem sI (hk:K (.int .u32 (((a+b)%4294967296:Nat):Int))):A5 .add .u32 (a:Int) .u32 (b:Int) K :=
 eV (v := .int .u32 (IntKind.u32.wrap ((a:Int)+b))) (by simp only[FH,if_true]) (by rw[<-Int.natCast_add,wrap_u32];exact hk)
end
section
variable {K:Int->Prop} {n:Nat}
theorem rY (h:n<=18446744073709551615) (hk:K (n:Int)):BV .u64 (n:Int) K:=aZ (IntWalk.u64_in _ (by omega)) hk
theorem GP (h:n<=4294967295) (hk:K (n:Int)):BV .u32 (n:Int) K:=aZ (IntWalk.u32_in _ (by omega)) hk
theorem JL (hk:K ((n%4294967296:Nat):Int)):BV .u32 (n:Int) K:=⟨by rw[wrap_u32];exact hk⟩
theorem Yp (h:n<=255) (hk:K (n:Int)):BV .u8 (n:Int) K:=aZ (IntWalk.u8_in _ (by omega)) hk
end
theorem fR {tb:List Nat} {n v:Nat} {K:Nat->Prop} (hv:tb[n]? = some v) (hk:K v):X5 tb (n:Int) K:=⟨by omega,v,by rw[Int.toNat_natCast];exact hv,hk⟩
abbrev BG (n:Nat):List AV:=[.int .u32 (n:Int)]
theorem EI (l:List Nat):GF (l.map BG):=YB (λ_=>by simp [DN,B4]) l
section
variable {l:List Nat} {K:List AV->Prop}
theorem fK {n:Nat} (hD:BZ l) (hn:n<l.length) (h : ∀ e,l[n]? = some e->e<4294967296->K (BG e)):BJ (l.map BG) (n:Int) 1 K :=
 bI hn (λ_=>rfl) λ e he=>h e he (hD.at he)
theorem W3 {a:Int} (hD:BZ l) (hn:0<=a/\a<l.length) (h : ∀ e,l[a.toNat]? = some e->e<4294967296->K (BG e)):BJ (l.map BG) a 1 K :=
 kS hn (λ_=>rfl) λ e he=>h e he (hD.at he)
theorem sH {i:Nat} (hD:BZ l) (hi:i<l.length) (h : ∀ e,l[i]? = some e->e<4294967296->K (BG e)):CS (l.map BG) (0+((i:Int)).toNat) 0 1 K :=
 kK (f:=BG) hi (λ_=>rfl) λ e he=>h e he (hD.at he)
theorem X1 {i:Int} (hD:BZ l) (hi:0<=i/\i<l.length) (h : ∀ e,l[i.toNat]? = some e->e<4294967296->K (BG e)):CS (l.map BG) (0+i.toNat) 0 1 K :=
 PA (f:=BG) hi (λ_=>rfl) λ e he=>h e he (hD.at he)
theorem H9 {i v:Nat} {KK:List (List AV)->Prop} (hi:i<l.length) (h:KK ((l.set i v).map BG)):CR (l.map BG) (0+((i:Int)).toNat) 0 [.int .u32 (v:Int)] KK:=W5 (enc:=BG) v rfl (λ_=>rfl) hi h
theorem fP {i v:Nat} {KK:List (List AV)->Prop} (n:Nat) (hn:i=n) (hi:n<l.length) (h:KK ((l.set n v).map BG)):CR (l.map BG) i 0 [.int .u32 (v:Int)] KK:=bV (enc:=BG) n v hn rfl (λ_=>rfl) hi h
end
end Go.e6
namespace Go.e6
variable {L:Lib}
theorem Ev.xE {f:Nat} {fn:AFn} {vs:List AV} {P:AV->Prop} (hL:L f=some fn) (hp:Nat.beq vs.length fn.cb=true) (hd:QJ vs=true) (h:AH L [.code fn.body] (D7 0 vs) [] (λ tm M => ∃ r,W4 fn r tm M/\P r)) (hs:fn.pj=false:=by rfl) : ∃ r,Ev L f vs r/\P r:=by
 obtain ⟨n,c,k9,hr,σ,tm,M,hR,r,hq,hP⟩:=h (λ_ _=>(0,0)) ⟨D7 0 vs,BC.emp⟩ ⟨λ j=>Or.inr (by rw[P9];exact cL hd j),⟨(λ_ _ _ e=>by cases e),(λ_ _ _ e=>by simp [c8,c9]at e),(λ_ _ _ e=>by simp [c8,c9]at e),(λ_ _ _ _ _ _ e=>by simp [c8,c9]at e),(λ_ _ _ e=>by simp [c8,c9]at e)⟩⟩;exact ⟨r,Ev.fwd hL (CW.1 hp) ⟨n,c,k9,hr,sQ hR hq⟩ hs,hP⟩
def aH:F5->Bool
 | .cn .. | .box .. | .alloc .. | .e5 .. | .st .. | .mk .. | .app .. | .g7 .. | .o3 .. | .nr .. | .o8 .. | .cw .. => false
 | _=>true
def OT:CP->Bool
 | .skip=>true
 | .ops l _=>l.all λ a=>aH a.op
 | .dr c _ ss=>OT c&&ss.isEmpty
 | .scope c=>OT c
 | .seq a b=>OT a&&OT b
 | .cond _ a b=>OT a&&OT b
 | .block _ c=>OT c
 | .loop c=>OT c
 | .exit _=>true
 | .ret=>true
def WF:It->Bool
 | .code c=>OT c
 | .ns _ ss=>ss.isEmpty
 | .e7 _=>true
 | .lp c=>OT c
theorem Ae1 {C:Cl} {c5:List Nat} {ρ:BH->AV} {own:BC} {op:F5} {E:DS} (ho:aH op=true) (h:e8 C c5 ρ own op=some E) : ∃ v,E = .val v:=by
 cases op<;>first|(simp [aH]at ho;done)|skip
 all_goals simp only[e8]at h
 all_goals
  first
   | (simp only[Option.some.injEq]at h;exact ⟨_,h.symm⟩)
   | (simp only[Option.map_eq_some_iff]at h;obtain ⟨_,_,rfl⟩:=h;exact ⟨_,rfl⟩)
   | skip
 all_goals (repeat' split at h)
 all_goals
  first
   | (cases h;done)
   | (simp only[Option.some.injEq]at h;exact ⟨_,h.symm⟩)
   | (simp only[Option.map_eq_some_iff]at h;obtain ⟨_,_,rfl⟩:=h;exact ⟨_,rfl⟩)
theorem Ai2 {C:Cl} {a:AI} (ho:aH a.op=true) {s s':St} (h:EL C a s=some s'):s'.own=s.own:=by
 unfold EL at h;split at h
 ·cases he:e8 C a.c5 s.ev s.own a.op with
  | none=>rw[he]at h;cases h
  | some E =>
   rw[he]at h;obtain ⟨v,rfl⟩:=Ae1 ho he;simp only[Option.map_some,Option.some.injEq]at h;subst h;simp only[St.app];cases a.dst<;>rfl
 ·simp only[Option.some.injEq]at h
  subst h;cases a.dst<;>rfl
 ·cases h
theorem Qf {C:Cl} : ∀ {l:List AI},(l.all λ a=>aH a.op)=true -> ∀ {s s':St},FB C l s=some s'->s'.own=s.own
 | [],_,s,s',h=>by simp only[FB,Option.some.injEq]at h;rw[h]
 | a::l,ho,s,s',h=>by
  simp only[List.all_cons,Bool.and_eq_true]at ho;simp only[FB]at h;cases h1:EL C a s with
  | none=>rw[h1]at h;cases h
  | some s1 =>
   rw[h1]at h;rw[Qf ho.2 h,Ai2 ho.1 h1]
theorem cY {id:Nat} : ∀ {k k':List It},k.all WF=true->IQ id k=some k'->k'.all WF=true
 | [],_,_,h=>by simp [IQ]at h
 | it::k,k',hk,h=>by
  simp only[List.all_cons,Bool.and_eq_true]at hk;cases it with
  | e7 i =>
   simp only[IQ]at h;split at h
   ·cases h;exact hk.2
   ·exact cY hk.2 h
  | code c=>simp only[IQ]at h;exact cY hk.2 h
  | ns a b=>simp only[IQ]at h;exact cY hk.2 h
  | lp c=>simp only[IQ]at h;exact cY hk.2 h
theorem O5 {C:Cl} : ∀ (n:Nat) {k:List It},k.all WF=true -> ∀ {s s':St},run C n k s=some s'->s'.own=s.own
 | 0,k,_,s,s',h=>by simp [run]at h
 | n+1,[],_,s,s',h=>by
  simp only[run,Option.some.injEq]at h;rw[h]
 | n+1,it::k,hk,s,s',h=>by
  have jc:=hk;simp only[List.all_cons,Bool.and_eq_true]at hk;obtain ⟨hi,hk⟩:=hk;cases it with
  | e7 _=>simp only[run]at h;exact O5 n hk h
  | ns ts ss =>
   have:ss=[]:=by simpa [WF] using hi
   subst this;simp only[run]at h;rw[O5 n hk h];rfl
  | lp c=>simp only[run]at h;exact O5 n (by simp only[List.all_cons,Bool.and_eq_true];exact ⟨hi,hi,hk⟩) h
  | code c =>
   cases c with
   | skip=>simp only[run]at h;exact O5 n hk h
   | ops l d =>
    simp only[run]at h;cases h1:FB C l s with
    | none=>rw[h1]at h;cases h
    | some s1 =>
     rw[h1]at h;rw[O5 n hk h,Qf (show (l.all λ a=>aH a.op)=true from hi) h1]
   | dr c ts ss =>
    simp only[run]at h;simp only[WF,OT,Bool.and_eq_true]at hi;exact O5 n (by simp only[List.all_cons,Bool.and_eq_true];exact ⟨hi.1,hi.2,hk⟩) h
   | scope c=>simp only[run]at h;exact O5 n (by simp only[List.all_cons,Bool.and_eq_true];exact ⟨hi,hk⟩) h
   | seq a b =>
    simp only[run]at h;simp only[WF,OT,Bool.and_eq_true]at hi;exact O5 n (by simp only[List.all_cons,Bool.and_eq_true];exact ⟨hi.1,hi.2,hk⟩) h
   | cond x a b =>
    simp only[WF,OT,Bool.and_eq_true]at hi;simp only[run]at h;split at h
    ·exact O5 n (by simp only[List.all_cons,Bool.and_eq_true];exact ⟨hi.1,hk⟩) h
    ·exact O5 n (by simp only[List.all_cons,Bool.and_eq_true];exact ⟨hi.2,hk⟩) h
    ·cases h
   | block id c=>simp only[run]at h;exact O5 n (by simp only[List.all_cons,Bool.and_eq_true];exact ⟨hi,rfl,hk⟩) h
   | loop c=>simp only[run]at h;exact O5 n (by simp only[List.all_cons,Bool.and_eq_true];exact ⟨hi,hi,hk⟩) h
   | exit id =>
    simp only[run]at h;split at h
    ·rename_i k' he
     exact O5 n (cY hk he) h
    ·cases h
   | ret =>
    simp only[run,Option.some.injEq]at h;rw[h]
def We (fn:AFn) (r:AV) (tm:Tm) (_M:Mem):Prop := ∃ rs,XQ tm fn.res=some rs/\OG rs=r
def gL:AV->Bool
 | .g8 vs=>QJ vs
 | v=>XA v
theorem uW {σ:IY} {v:AV} (h:gL v=true):CI σ v=v:=by
 cases v with
 | g8 vs =>
  simp only[CI];congr 1;simp only[gL]at h;induction vs with
  | nil=>rfl
  | cons v r ih =>
   simp only[QJ]at h;cases hv:XA v<;>simp only[hv,cond_true,cond_false]at h
   ·cases h
   ·rw[List.map_cons,ih h]
    congr 1;cases v<;>first|rfl|(simp [XA,tk]at hv;done)|skip
    rename_i cs;exact gK (σ:=σ) (v := .agg cs) hv
 | _=>exact gK (σ:=σ) h
def bK (L:Lib) (f:Nat) (vs:List AV) (r:AV):Prop:=gL r=true/\(∀ σ:IY,vs.map (CI σ)=vs) /\ ∀ own:BC,J2 L f vs own r own
theorem uU {σ:IY} : ∀ {vs:List AV},QJ vs=true->vs.map (CI σ)=vs
 | [],_=>rfl
 | v::r,h=>by
  simp only[QJ]at h;cases hv:XA v<;>simp only[hv,cond_true,cond_false]at h
  ·cases h
  ·rw[List.map_cons,gK hv,uU h]
theorem Wf {f:Nat} {fn:AFn} {vs:List AV} {r:AV} (hL:L f=some fn) (hp:Nat.beq vs.length fn.cb=true) (hd:QJ vs=true) (Fu:OT fn.body=true) (l8:dY 100000 fn.res=true) (hr:gL r=true) (h:AH L [.code fn.body] (D7 0 vs) [] (We fn r)):bK L f vs r:=by
 refine ⟨hr,λ σ=>uU hd,λ own => ?_⟩;obtain ⟨n,c,k9,q7,σ,tm,M,hR,rs,Ko,he⟩:=h (λ_ _=>(0,0)) ⟨D7 0 vs,own⟩ ⟨λ j=>Or.inr (by rw[P9];exact cL hd j),⟨(λ_ _ _ e=>by cases e),(λ_ _ _ e=>by simp [c8,c9]at e),(λ_ _ _ e=>by simp [c8,c9]at e),(λ_ _ _ _ _ _ e=>by simp [c8,c9]at e),(λ_ _ _ e=>by simp [c8,c9]at e)⟩⟩;have ho:=O5 n (by simp [WF,Fu]) q7;obtain ⟨i1,i2⟩:=qC (N:=100000) (s:=k9) hR (λ_ _=>rfl) l8 Ko;refine J2.intro hL (CW.1 hp) ⟨n,c,k9,q7,?_,ho⟩;rw[i1,Option.map_some,Mo i2,he,uW hr]
theorem QD {f:Nat} {vs:List AV} {r:AV} {tm:Tm} {M:Mem} {K:AV->Mem->Prop} (h:bK L f vs r) (hk:K r M):CG L f vs tm M K:=by
 intro σ own hs;refine ⟨r,own,σ,M,?_,hs,λ_=>rfl,hk⟩;rw[h.2.1 σ,uW h.1];exact h.2.2 own
end Go.e6

namespace Go.e6
variable {L:Lib}
def sP (fn:AFn) (z:Nat) (es:List (List AV)) (tm:Tm) (M:Mem):Prop:=match fn.res with
 | [.tmp t]=>match tg tm t with
  | .row k 0 z' 0 n=>match c9 M k with
   | some (_,.rw ij es')=>z'=z/\ij=z/\n=es.length/\es'=es/\GF es
   | _=>False
  | _=>False
 | _=>False
theorem PO.x {f:Nat} {fn:AFn} {vs:List AV} {z:Nat} {es:List (List AV)} (hL:L f=some fn) (hp:Nat.beq vs.length fn.cb=true) (hd:QJ vs=true) (h:AH L [.code fn.body] (D7 0 vs) [] (sP fn z es)):PO L f vs z es:=by
 obtain ⟨n,c,k9,hr,σ,tm,M,hR,hq⟩:=h (λ_ _=>(0,0)) ⟨D7 0 vs,BC.emp⟩ ⟨λ j=>Or.inr (by rw[P9];exact cL hd j),⟨(λ_ _ _ e=>by cases e),(λ_ _ _ e=>by simp [c8,c9]at e),(λ_ _ _ e=>by simp [c8,c9]at e),(λ_ _ _ _ _ _ e=>by simp [c8,c9]at e),(λ_ _ _ e=>by simp [c8,c9]at e)⟩⟩;unfold sP at hq;split at hq
 ·rename_i t oy
  split at hq
  ·rename_i k z' m Hg
   split at hq
   ·rename_i s ij es' hM
    obtain ⟨rfl,rfl,rfl,rfl,n8⟩:=hq;have hv:g6 k9.tm t = .row (σ k 0).1 (σ k 0).2 ij 0 es'.length:=by
     rcases hR.tm t with e|e
     ·rw[Hg]at e;cases e
     ·rw[e,Hg];rfl
    have hb:=hR.sat.e7 k 0 (.rw ij es') (by simp only[c8,hM]);obtain ⟨q,hq⟩:=J2.intro (r := .row (σ k 0).1 (σ k 0).2 ij 0 es'.length) (o':=k9.own) hL (CW.1 hp) ⟨n,c,k9,hr,by simp [oy,HY,hv,O3,OG],rfl⟩;refine ⟨q,?_⟩;simp only[hq,U6,BC.get,hb];rw[if_pos (show (B6.e7 σ k (.rw ij es')).es.length=es'.length/\GF (B6.e7 σ k (.rw ij es')).es from ⟨rfl,n8⟩)];rfl
   ·exact hq.elim
  ·exact hq.elim
 ·exact hq.elim
theorem kE {n:Nat} {cs:List AV} {K:Bool->Prop} (a:List Int) (h:NV cs=some a) (hn:a.length=n) (hk:K true):XZ n cs cs K:=⟨a,a,h,h,hn,hn,by rw[decide_eq_true rfl];exact hk⟩
theorem OP {α:Type} {enc:α->List AV} {l:List α} {f z:Nat} {vs:List AV} {K:Nat->List (List AV)->Nat->Prop} (n:Nat) (h:PO L f vs z (l.map enc)) (hn:n=l.length) (hk:K z (l.map enc) n):FF L f vs K:=⟨z,_,n,h,by simpa using hn,hk⟩
end Go.e6

namespace Go.e6
open F
attribute [local irreducible] AH A8 BT A5 EW BJ CS CR EU DK EE II C8 B5 DB FG AP CG BF pw HE FL HO HG HN G2 G5 DG FF
variable {L:Lib}
set_option maxHeartbeats 1000000
def E4 (a b:Int):Int:=if a<b then -1 else if b<a then 1 else 0
theorem OU {a b:Int} (h:a<b) : -1=E4 a b:=by unfold E4;rw[if_pos h]
theorem VC {a b:Int} (h:b<a):1=E4 a b:=by unfold E4;rw[if_neg (by omega),if_pos h]
theorem YC {a b:Int} (h:a=b):0=E4 a b:=by unfold E4;rw[if_neg (by omega),if_neg (by omega)]
theorem Afu (N:c6 L) (a:Int):Ev L 58 [.int .i64 a] (.bool false):=by
 refine Ev.x N.QY rfl rfl ?_;(repeat' ((first|(apply BB<;>intro hc<;>try omega)|apply A7)<;>conv=>whnf))
 exact H8 rfl
theorem Afv (N:c6 L) (a:Int):Ev L 59 [.int .u32 a] (.bool false):=by
 refine Ev.x N.QZ rfl rfl ?_;(repeat' ((first|(apply BB<;>intro hc<;>try omega)|apply A7)<;>conv=>whnf))
 exact H8 rfl
theorem Afa (N:c6 L) (a b:Int):Ev L 60 [.int .i64 a,.int .i64 b] (.int .i64 (E4 a b)):=by
 refine Ev.x N.QW rfl rfl ?_;(repeat' ((first|(apply BB<;>intro hc<;>try omega)|apply A7|refine AY (Afu N _) ?_)<;>conv=>whnf))
 ·exact DY (OU (by omega))
 ·exact DY (VC (by omega))
 ·exact DY (YC (by omega))
theorem Afb (N:c6 L) (a b:Int):Ev L 61 [.int .u32 a,.int .u32 b] (.int .i64 (E4 a b)):=by
 refine Ev.x N.QX rfl rfl ?_;(repeat' ((first|(apply BB<;>intro hc<;>try omega)|apply A7|refine AY (Afv N _) ?_)<;>conv=>whnf))
 ·exact DY (OU (by omega))
 ·exact DY (VC (by omega))
 ·exact DY (YC (by omega))
theorem vW (N:c6 L) (l:List Nat) (q:Bool) (hl:l.length<=1099511627776):Ev L 62 [.sl q (l.map BG)] (.sl false (l.map BG)):=by
 cases l with
 | nil =>
  refine JM.nil N.N5 (JM.x N.N5 rfl rfl ?_) (JM.x N.N5 rfl rfl ?_)
  ·(repeat' (apply A7<;>conv=>whnf))
   exact BU rfl (by simp [B4,GF])
  ·(repeat' (apply A7<;>conv=>whnf))
   refine rV (enc:=BG) (l:=[]) (l':=[]) rfl (λ_=>rfl) (by simp) (by simp) ?_;(conv=>whnf)
   (repeat' ((refine GR (λ_=>rfl) rfl ?_ ?_;(first|rfl|simp))<;>conv=>whnf))
   exact BU rfl (by simp [B4,GF])
 | cons d l =>
  refine JM.cons (JM.x N.N5 rfl rfl ?_);(repeat' (apply A7<;>conv=>whnf))
  refine B7 (by simp) ?_;(conv=>whnf)
  skip
  refine rV (enc:=BG) (l:=[]) (l':=d::l) rfl (λ_=>rfl) (by simp at hl ⊢;omega) (by simp at hl ⊢;omega) ?_;(conv=>whnf)
  (repeat' ((refine GR (λ_=>rfl) rfl ?_ ?_;(first|rfl|simp))<;>conv=>whnf))
  exact BU rfl (by simp only[B4,true_and];exact EI (d::l))
theorem QS (N:c6 L) (l:List Nat) (q:Bool) (hD:BZ l) (hl:l.length<=1099511627776):bK L 65 [.sl q (l.map BG)] (.sl q ((dg (val l)).map BG)):=by
 refine Wf N.I4 rfl rfl rfl rfl rfl ?_;(repeat' ((first|apply BR|apply A7)<;>conv=>whnf))
 refine HC (λ n=>n) (λ(n:Nat)=>n<=l.length /\ ∀ i,n<=i->i<l.length->l[i]? = some 0) (λ n=>[(3,.int .i64 n)]) (λ_=>[]) l.length ⟨Nat.le_refl _,λ i h1 h2=>by omega⟩ ?_;intro n ⟨p1,p2⟩ ih;rcases n with _|n
 ·(repeat' ((first|(apply BB<;>intro hc<;>try omega)|apply A7)<;>conv=>whnf))
  refine X3 (k:=0) (λ_=>rfl) (by omega) ?_;(conv=>whnf)
  refine ⟨_,rfl,?_⟩;rw[JX hD p1 p2 (Or.inl rfl)];rfl
 ·have e1:((n+1:Nat):Int)-1=n:=by omega
  (repeat' ((first|(apply BB<;>intro hc<;>try omega)|(apply DC;omega)|(refine W3 (by assumption) ?_ (λ e he hb => ?_);omega)|apply A7)<;>conv=>whnf))
  ·rw[e1]
   exact D0 [] (ih n (by omega) ⟨by omega,λ i h1 h2=>by
    by_cases h:i=n
    ·subst h
     rw[e1,Int.toNat_natCast]at he;rw[he];congr 1;omega
    ·exact p2 i (by omega) h2⟩)
  ·refine X3 (k:=n+1) (λ_=>rfl) (by omega) ?_
   (conv=>whnf)
   refine ⟨_,rfl,?_⟩;rw[e1,Int.toNat_natCast]at he;rw[JX hD p1 p2 (Or.inr ⟨e,he,by omega⟩)];rfl
theorem cS (N:c6 L) (l:List Nat) (q:Bool) (hD:BZ l) (hl:l.length<=1099511627776):Ev L 66 [.sl q (l.map BG)] (.sl false ((dg (val l)).map BG)):=by
 have hc:=HH hD;refine Ev.x N.R4 rfl rfl ?_;(repeat' ((first|apply A7|refine QD (QS N l _ hD hl) ?_|refine AY (vW N (dg (val l)) _ (by omega)) ?_)<;>conv=>whnf))
 exact BU rfl (by simp only[B4,true_and];exact EI _)
theorem Zt {a b:Nat} (h:((dg a).length:Int)≠(dg b).length):E4 (dg a).length (dg b).length=E4 a b:=by
 rcases Nat.lt_trichotomy (dg a).length (dg b).length with h1|h1|h1
 ·have:=aW h1
  rw[<-OU (by omega),<-OU (by omega)]
 ·omega
 ·have:=aW h1
  rw[<-VC (by omega),<-VC (by omega)]
theorem WC (N:c6 L) (a b:List Nat) (q1 q2:Bool) (hA:BZ a) (hB:BZ b) (la:a.length<=1099511627776) (lb:b.length<=1099511627776):Ev L 67 [.sl q1 (a.map BG),.sl q2 (b.map BG)] (.int .i64 (E4 (val a) (val b))):=by
 have l1:=HH hA;have l2:=HH hB;have d1:=GA (val a);have d2:=GA (val b);refine Ev.x N.RW rfl rfl ?_;(repeat' ((first|(apply BB<;>intro hc<;>try omega)|(apply DC;omega)|apply BR|apply A7|refine QD (QS N a _ hA la) ?_|refine QD (QS N b _ hB lb) ?_|refine AY (Afa N _ _) ?_)<;>conv=>whnf))
 ·exact DY (Zt (by omega))
 have hlen:(dg (val a)).length=(dg (val b)).length:=by omega
 have v1:=CX (val a);have v2:=CX (val b);generalize dg (val a)=X at *;generalize dg (val b)=Y at *;refine HC (λ n=>n) (λ(n:Nat)=>n<=X.length/\X.drop n=Y.drop n) (λ n=>[(7,.int .i64 ((n:Int)-1))]) (λ_=>[]) X.length ⟨Nat.le_refl _,by rw[List.drop_of_length_le (Nat.le_refl _),List.drop_of_length_le (by omega)]⟩ ?_;intro n ⟨p1,p2⟩ ih;rcases n with _|n
 ·(repeat' ((first|(apply BB<;>intro hc<;>try omega)|apply A7)<;>conv=>whnf))
  rw[List.drop_zero,List.drop_zero]at p2;exact DY (YC (by rw[<-v1,<-v2,p2]))
 ·have e1:((n+1:Nat):Int)-1=n:=by omega
  rw[e1];(repeat' ((first|(apply BB<;>intro hc<;>try omega)|(apply DC;omega)|(refine CT (by assumption) ?_ rfl ?_;omega)|(refine fK (by assumption) ?_ (λ e he hb => ?_);omega)|apply A7|refine AY (Afb N _ _) ?_)<;>conv=>whnf))
  ·rename_i x hx _
   rcases Nat.lt_trichotomy x e with h|h|h
   ·have:=jX d1 d2 hlen hx he p2 h
    refine DY ?_;rw[<-OU (by omega),<-OU (by omega)]
   ·omega
   ·have:=jX d2 d1 hlen.symm he hx p2.symm h
    refine DY ?_;rw[<-VC (by omega),<-VC (by omega)]
  ·rename_i x hx _
   refine C5 [] (by (conv=>whnf);exact ⟨rfl,rfl,rfl⟩) (ih n (by omega) ⟨by omega,?_⟩);obtain ⟨i1,e1⟩:=zS hx;obtain ⟨i2,e2⟩:=zS he;rw[List.drop_eq_getElem_cons i1,List.drop_eq_getElem_cons i2,p2,e1,e2];congr 1;omega
theorem kB {y:List Nat} {i:Nat} (h:y.length<=i):val (y.take (i+1))=val (y.take i):=by
 rw[E9 h,E9 (by omega)]
theorem wJ (N:c6 L) (a b:List Nat) (q1 q2:Bool) (hA:BZ a) (hB:BZ b) (la:a.length<=1099511627775) (lb:b.length<=1099511627775):Ev L 68 [.sl q1 (a.map BG),.sl q2 (b.map BG)] (.sl false ((dg (val a+val b)).map BG)):=by
 have l1:=HH hA;have l2:=HH hB;have d1:=GA (val a);have d2:=GA (val b);have v1:=CX (val a);have v2:=CX (val b);refine Ev.x N.RV rfl rfl ?_;(repeat' ((first|(apply BB<;>intro hc<;>try omega)|(apply BS;omega)|apply BR|apply A7|refine QD (QS N a _ hA (by omega)) ?_|refine QD (QS N b _ hB (by omega)) ?_)<;>conv=>whnf))
 ·generalize dg (val a)=y at *
  generalize dg (val b)=x at *;rw[<-v1,<-v2,Nat.add_comm (val y)];have hlen:y.length<=x.length:=by omega
  have gn:x.length<=1099511627775:=by omega
  clear v1 v2 hA hB la lb;refine NQ (enc:=BG) 0 (x.length+1) rfl (by omega) (by omega) ?_;(conv=>whnf)
  (repeat' (apply BR<;>conv=>whnf))
  refine J1 (λ i _ _=>x.length-i) (λ(i:Nat) (o:List Nat) (c:Nat)=>i<=x.length/\o.length=x.length+1/\BZ o/\c<=1/\val (o.take i)+4294967296^i*c=val (x.take i)+val (y.take i)) (λ i o c=>[(8,.int .u64 (c:Int)),(29,.int .i64 i)]) (λ i o c=>[(26,26,.rw 1 (o.map BG))]) 0 (List.replicate (x.length+1) 0) 0 ⟨by omega,by simp,PG _,by omega,by simp [val]⟩ ?_;intro i o c ⟨p1,p2,p3,p4,p5⟩ ih;by_cases hi:i<x.length
  ·(repeat' ((first|(apply BB<;>intro hc<;>try omega)|(apply B7;omega)|(apply JS;omega)|(apply DL;omega)|apply JL|apply BR|(refine fK (by assumption) ?_ (λ e he hb => ?_);omega)|apply A7)<;>conv=>whnf))
   ·rename_i d hd _
    refine H9 (by omega) ?_;(conv=>whnf)
    (repeat' ((first|(apply BS;omega)|apply IK)<;>conv=>whnf))
    refine C5 [] (by (conv=>whnf);exact ⟨rfl,rfl,rfl⟩) (ih (i+1) _ _ (by omega) ⟨by omega,by simpa using p2,p3.set _ (by omega),by omega,?_⟩);have h1:=GD hd;have h2:=GD he;have h3:=V8 (val (o.take i)) (4294967296^i) (d+c+e);have h4:=JQ (v:=(d+c+e)%4294967296) (show i<o.length by omega);rw[h4,h1,h2,Nat.pow_succ];generalize 4294967296^i=p at *;rw[h3,Nat.mul_add,Nat.mul_add];omega
   ·refine H9 (by omega) ?_
    (conv=>whnf)
    (repeat' ((first|(apply BS;omega)|apply IK)<;>conv=>whnf))
    refine C5 [] (by (conv=>whnf);exact ⟨rfl,rfl,rfl⟩) (ih (i+1) _ _ (by omega) ⟨by omega,by simpa using p2,p3.set _ (by omega),by omega,?_⟩);have h1:=GD he;have h2:=kB (y:=y) (i:=i) (by omega);have h3:=V8 (val (o.take i)) (4294967296^i) (e+c);have h4:=JQ (v:=(e+c)%4294967296) (show i<o.length by omega);rw[h4,h1,h2,Nat.pow_succ];generalize 4294967296^i=p at *;rw[h3,Nat.mul_add];omega
  ·obtain rfl:i=x.length:=by omega
   clear ih;(repeat' ((first|(apply BB<;>intro hc<;>try omega)|(apply B7;omega)|(apply GP;omega)|apply BR|apply A7)<;>conv=>whnf))
   refine H9 (by omega) ?_;(conv=>whnf)
   skip
   have hV:val (o.set x.length c)=val x+val y:=by
    have h4:=JQ (v:=c) (show x.length<o.length by omega);rw[zT (by simp;omega)]at h4;rw[h4,p5,E9 (Nat.le_refl _),E9 hlen]
   have hD:BZ (o.set x.length c):=p3.set _ (by omega);have hL:(o.set x.length c).length=x.length+1:=by simpa using p2
   clear p3 p4 p5 p2;generalize o.set x.length c=O at *;rw[<-hL];refine OO 1000 N.I4 rfl rfl ?_;(repeat' (apply A7<;>conv=>whnf))
   refine QV (λ n=>n) (λ(n:Nat)=>n<=(O).length /\ ∀ i,n<=i->i<(O).length->(O)[i]? = some 0) (λ n=>[(3,.int .i64 n)]) (λ_=>[]) [] [] (O).length (by first|exact (by (conv=>whnf);exact ⟨rfl,rfl,rfl⟩)|(simp only[List.length_set,List.length_replicate];exact (by (conv=>whnf);exact ⟨rfl,rfl,rfl⟩))) ⟨Nat.le_refl _,λ i h1 h2=>by omega⟩ ?_;intro n ⟨p1,p2⟩ ih;rcases n with _|n
   ·(repeat' ((first|(apply BB<;>intro hc<;>try omega)|apply A7)<;>conv=>whnf))
    refine NN 0 (by omega) (by omega) ?_;(conv=>whnf)
    refine ⟨rfl,_,rfl,?_⟩;(conv=>whnf)
    have hm:=p1;have dm:=JX (l:=O) (by assumption) p1 p2 (Or.inl rfl);clear ih p1 p2;(refine N9 (enc:=BG) (λ_=>rfl) (by omega) ?_;(conv=>whnf);exact BU (by rw[<-hV,<-dm];rfl) (by simp only[B4,true_and];exact EI _))
   ·have e1:((n+1:Nat):Int)-1=n:=by omega
    (repeat' ((first|(apply BB<;>intro hc<;>try omega)|(apply B7;omega)|(apply DC;omega)|(refine X1 (by assumption) ?_ (λ v hv hb => ?_);omega)|apply A7)<;>conv=>whnf))
    ·rw[e1]
     exact D0 [] (ih n (by omega) ⟨by omega,λ i h1 h2=>by
      by_cases h:i=n
      ·subst h
       rw[e1,Int.toNat_natCast]at hv;rw[hv];congr 1;omega
      ·exact p2 i (by omega) h2⟩)
    ·refine NN (n+1) (by omega) (by omega) ?_
     (conv=>whnf)
     refine ⟨rfl,_,rfl,?_⟩;(conv=>whnf)
     rw[e1,Int.toNat_natCast]at hv;have hm:=p1;have dm:=JX (l:=O) (by assumption) p1 p2 (Or.inr ⟨_,hv,by omega⟩);clear ih p1 p2 hv;(refine N9 (enc:=BG) (λ_=>rfl) (by omega) ?_;(conv=>whnf);exact BU (by rw[<-hV,<-dm];rfl) (by simp only[B4,true_and];exact EI _))
 ·generalize dg (val a)=x at *
  generalize dg (val b)=y at *;rw[<-v1,<-v2];have hlen:y.length<=x.length:=by omega
  have gn:x.length<=1099511627775:=by omega
  clear v1 v2 hA hB la lb;refine NQ (enc:=BG) 0 (x.length+1) rfl (by omega) (by omega) ?_;(conv=>whnf)
  (repeat' (apply BR<;>conv=>whnf))
  refine J1 (λ i _ _=>x.length-i) (λ(i:Nat) (o:List Nat) (c:Nat)=>i<=x.length/\o.length=x.length+1/\BZ o/\c<=1/\val (o.take i)+4294967296^i*c=val (x.take i)+val (y.take i)) (λ i o c=>[(8,.int .u64 (c:Int)),(29,.int .i64 i)]) (λ i o c=>[(26,26,.rw 1 (o.map BG))]) 0 (List.replicate (x.length+1) 0) 0 ⟨by omega,by simp,PG _,by omega,by simp [val]⟩ ?_;intro i o c ⟨p1,p2,p3,p4,p5⟩ ih;by_cases hi:i<x.length
  ·(repeat' ((first|(apply BB<;>intro hc<;>try omega)|(apply B7;omega)|(apply JS;omega)|(apply DL;omega)|apply JL|apply BR|(refine fK (by assumption) ?_ (λ e he hb => ?_);omega)|apply A7)<;>conv=>whnf))
   ·rename_i d hd _
    refine H9 (by omega) ?_;(conv=>whnf)
    (repeat' ((first|(apply BS;omega)|apply IK)<;>conv=>whnf))
    refine C5 [] (by (conv=>whnf);exact ⟨rfl,rfl,rfl⟩) (ih (i+1) _ _ (by omega) ⟨by omega,by simpa using p2,p3.set _ (by omega),by omega,?_⟩);have h1:=GD hd;have h2:=GD he;have h3:=V8 (val (o.take i)) (4294967296^i) (d+c+e);have h4:=JQ (v:=(d+c+e)%4294967296) (show i<o.length by omega);rw[h4,h1,h2,Nat.pow_succ];generalize 4294967296^i=p at *;rw[h3,Nat.mul_add,Nat.mul_add];omega
   ·refine H9 (by omega) ?_
    (conv=>whnf)
    (repeat' ((first|(apply BS;omega)|apply IK)<;>conv=>whnf))
    refine C5 [] (by (conv=>whnf);exact ⟨rfl,rfl,rfl⟩) (ih (i+1) _ _ (by omega) ⟨by omega,by simpa using p2,p3.set _ (by omega),by omega,?_⟩);have h1:=GD he;have h2:=kB (y:=y) (i:=i) (by omega);have h3:=V8 (val (o.take i)) (4294967296^i) (e+c);have h4:=JQ (v:=(e+c)%4294967296) (show i<o.length by omega);rw[h4,h1,h2,Nat.pow_succ];generalize 4294967296^i=p at *;rw[h3,Nat.mul_add];omega
  ·obtain rfl:i=x.length:=by omega
   clear ih;(repeat' ((first|(apply BB<;>intro hc<;>try omega)|(apply B7;omega)|(apply GP;omega)|apply BR|apply A7)<;>conv=>whnf))
   refine H9 (by omega) ?_;(conv=>whnf)
   skip
   have hV:val (o.set x.length c)=val x+val y:=by
    have h4:=JQ (v:=c) (show x.length<o.length by omega);rw[zT (by simp;omega)]at h4;rw[h4,p5,E9 (Nat.le_refl _),E9 hlen]
   have hD:BZ (o.set x.length c):=p3.set _ (by omega);have hL:(o.set x.length c).length=x.length+1:=by simpa using p2
   clear p3 p4 p5 p2;generalize o.set x.length c=O at *;rw[<-hL];refine OO 1000 N.I4 rfl rfl ?_;(repeat' (apply A7<;>conv=>whnf))
   refine QV (λ n=>n) (λ(n:Nat)=>n<=(O).length /\ ∀ i,n<=i->i<(O).length->(O)[i]? = some 0) (λ n=>[(3,.int .i64 n)]) (λ_=>[]) [] [] (O).length (by first|exact (by (conv=>whnf);exact ⟨rfl,rfl,rfl⟩)|(simp only[List.length_set,List.length_replicate];exact (by (conv=>whnf);exact ⟨rfl,rfl,rfl⟩))) ⟨Nat.le_refl _,λ i h1 h2=>by omega⟩ ?_;intro n ⟨p1,p2⟩ ih;rcases n with _|n
   ·(repeat' ((first|(apply BB<;>intro hc<;>try omega)|apply A7)<;>conv=>whnf))
    refine NN 0 (by omega) (by omega) ?_;(conv=>whnf)
    refine ⟨rfl,_,rfl,?_⟩;(conv=>whnf)
    have hm:=p1;have dm:=JX (l:=O) (by assumption) p1 p2 (Or.inl rfl);clear ih p1 p2;(refine N9 (enc:=BG) (λ_=>rfl) (by omega) ?_;(conv=>whnf);exact BU (by rw[<-hV,<-dm];rfl) (by simp only[B4,true_and];exact EI _))
   ·have e1:((n+1:Nat):Int)-1=n:=by omega
    (repeat' ((first|(apply BB<;>intro hc<;>try omega)|(apply B7;omega)|(apply DC;omega)|(refine X1 (by assumption) ?_ (λ v hv hb => ?_);omega)|apply A7)<;>conv=>whnf))
    ·rw[e1]
     exact D0 [] (ih n (by omega) ⟨by omega,λ i h1 h2=>by
      by_cases h:i=n
      ·subst h
       rw[e1,Int.toNat_natCast]at hv;rw[hv];congr 1;omega
      ·exact p2 i (by omega) h2⟩)
    ·refine NN (n+1) (by omega) (by omega) ?_
     (conv=>whnf)
     refine ⟨rfl,_,rfl,?_⟩;(conv=>whnf)
     rw[e1,Int.toNat_natCast]at hv;have hm:=p1;have dm:=JX (l:=O) (by assumption) p1 p2 (Or.inr ⟨_,hv,by omega⟩);clear ih p1 p2 hv;(refine N9 (enc:=BG) (λ_=>rfl) (by omega) ?_;(conv=>whnf);exact BU (by rw[<-hV,<-dm];rfl) (by simp only[B4,true_and];exact EI _))
theorem Zr {a b:Int} (h:E4 a b<=0):a<=b:=by
 unfold E4 at h;split at h
 ·omega
 ·split at h<;>omega
theorem Zs {a b:Int} (h:0<E4 a b):b<a:=by
 unfold E4 at h;split at h
 ·omega
 ·split at h<;>omega
theorem nF (N:c6 L) (a b:List Nat) (q1 q2:Bool) (hA:BZ a) (hB:BZ b) (la:a.length<=1099511627776) (lb:b.length<=1099511627776):Ev L 69 [.sl q1 (a.map BG),.sl q2 (b.map BG)] (.sl false ((dg (val a-val b)).map BG)):=by
 have l1:=HH hA;have l2:=HH hB;have d1:=GA (val a);have d2:=GA (val b);have v1:=CX (val a);have v2:=CX (val b);refine Ev.x N.R0 rfl rfl ?_;(repeat' ((first|(apply BB<;>intro hc<;>try omega)|apply BR|apply A7|refine AY (WC N a b _ _ hA hB la lb) ?_|refine QD (QS N a _ hA la) ?_|refine QD (QS N b _ hB lb) ?_)<;>conv=>whnf))
 ·have:=Zr hc
  refine BU ?_ (by simp only[B4,true_and];exact EI _);rw[show val a-val b=0 by omega,HP];rfl
 ·have l8:=Zs hc
  have xq:(dg (val b)).length<=(dg (val a)).length:=by
   rcases Nat.lt_or_ge (dg (val a)).length (dg (val b)).length with h|h
   ·have:=aW h;omega
   ·exact h
  have uv:val b<val a:=by omega
  clear l8 hc;generalize dg (val a)=x at *;generalize dg (val b)=y at *;rw[<-v1,<-v2]at uv ⊢;clear v1 v2 hA hB lb;refine NQ (enc:=BG) 0 x.length rfl rfl (by omega) ?_;(conv=>whnf)
  (repeat' (apply BR<;>conv=>whnf))
  refine J1 (λ i _ _=>x.length-i) (λ(i:Nat) (o:List Nat) (c:Nat)=>i<=x.length/\o.length=x.length/\BZ o/\c<=1/\val (o.take i)+val (y.take i)=val (x.take i)+4294967296^i*c) (λ i o c=>[(8,.int .u64 (c:Int)),(25,.int .i64 i)]) (λ i o c=>[(22,22,.rw 1 (o.map BG))]) 0 (List.replicate x.length 0) 0 ⟨by omega,by simp,PG _,by omega,by simp [val]⟩ ?_;intro i o c ⟨p1,p2,p3,p4,p5⟩ ih;by_cases hi:i<x.length
  ·(repeat' ((first|(apply BB<;>intro hc<;>try omega)|(apply B7;omega)|(apply fH;omega)|(apply DL;omega)|apply JL|apply BR|(refine fK (by assumption) ?_ (λ e he hb => ?_);omega)|apply A7)<;>conv=>whnf))
   ·rename_i d hd du
    obtain ⟨s1,s2⟩:=Ai7 du hb p4;refine H9 (by omega) ?_;(conv=>whnf)
    (repeat' ((first|(apply BS;omega)|apply fG)<;>conv=>whnf))
    generalize GZ (GZ d c) e=t at *;refine C5 [] (by (conv=>whnf);exact ⟨rfl,rfl,rfl⟩) (ih (i+1) _ _ (by omega) ⟨by omega,by simpa using p2,p3.set _ (by omega),s2,?_⟩);rw[JQ (by omega),GD hd,GD he,Nat.pow_succ];exact Qh p5 s1
   ·obtain ⟨s1,s2⟩:=Ai6 hb p4
    refine H9 (by omega) ?_;(conv=>whnf)
    (repeat' ((first|(apply BS;omega)|apply fG)<;>conv=>whnf))
    generalize GZ e c=t at *;refine C5 [] (by (conv=>whnf);exact ⟨rfl,rfl,rfl⟩) (ih (i+1) _ _ (by omega) ⟨by omega,by simpa using p2,p3.set _ (by omega),s2,?_⟩);rw[JQ (by omega),GD he,kB (by omega),Nat.pow_succ];rw[<-Nat.add_zero (t%4294967296)]at s1;have:=Qh (e:=0) p5 s1
    rw[Nat.mul_zero,Nat.add_zero]at this;exact this
  ·obtain rfl:i=x.length:=by omega
   clear ih;have jn:c=0:=by
    rw[E9 (by omega),E9 xq,E9 (Nat.le_refl _)]at p5;have:=HS p3
    rw[p2]at this;rcases Nat.eq_zero_or_pos c with h|h
    ·exact h
    ·have:c=1:=by omega
     subst this;omega
   subst jn;have hV:val o=val x-val y:=by
    rw[E9 (by omega),E9 xq,E9 (Nat.le_refl _)]at p5;omega
   clear p5 p4;rw[<-p2];(repeat' ((first|(apply BB<;>intro hc<;>try omega)|apply A7)<;>conv=>whnf))
   refine OO 1000 N.I4 rfl rfl ?_;(repeat' (apply A7<;>conv=>whnf))
   refine QV (λ n=>n) (λ(n:Nat)=>n<=(o).length /\ ∀ i,n<=i->i<(o).length->(o)[i]? = some 0) (λ n=>[(3,.int .i64 n)]) (λ_=>[]) [] [] (o).length (by first|exact (by (conv=>whnf);exact ⟨rfl,rfl,rfl⟩)|(simp only[List.length_set,List.length_replicate];exact (by (conv=>whnf);exact ⟨rfl,rfl,rfl⟩))) ⟨Nat.le_refl _,λ i h1 h2=>by omega⟩ ?_;intro n ⟨p1,p2⟩ ih;rcases n with _|n
   ·(repeat' ((first|(apply BB<;>intro hc<;>try omega)|apply A7)<;>conv=>whnf))
    refine NN 0 (by omega) (by omega) ?_;(conv=>whnf)
    refine ⟨rfl,_,rfl,?_⟩;(conv=>whnf)
    have hm:=p1;have dm:=JX (l:=o) (by assumption) p1 p2 (Or.inl rfl);clear ih p1 p2;(refine N9 (enc:=BG) (λ_=>rfl) (by omega) ?_;(conv=>whnf);exact BU (by rw[<-hV,<-dm];rfl) (by simp only[B4,true_and];exact EI _))
   ·have e1:((n+1:Nat):Int)-1=n:=by omega
    (repeat' ((first|(apply BB<;>intro hc<;>try omega)|(apply B7;omega)|(apply DC;omega)|(refine X1 (by assumption) ?_ (λ v hv hb => ?_);omega)|apply A7)<;>conv=>whnf))
    ·rw[e1]
     exact D0 [] (ih n (by omega) ⟨by omega,λ i h1 h2=>by
      by_cases h:i=n
      ·subst h
       rw[e1,Int.toNat_natCast]at hv;rw[hv];congr 1;omega
      ·exact p2 i (by omega) h2⟩)
    ·refine NN (n+1) (by omega) (by omega) ?_
     (conv=>whnf)
     refine ⟨rfl,_,rfl,?_⟩;(conv=>whnf)
     rw[e1,Int.toNat_natCast]at hv;have hm:=p1;have dm:=JX (l:=o) (by assumption) p1 p2 (Or.inr ⟨_,hv,by omega⟩);clear ih p1 p2 hv;(refine N9 (enc:=BG) (λ_=>rfl) (by omega) ?_;(conv=>whnf);exact BU (by rw[<-hV,<-dm];rfl) (by simp only[B4,true_and];exact EI _))
theorem nE (N:c6 L) (a b:List Nat) (q1 q2:Bool) (hA:BZ a) (hB:BZ b) (Tg:a.length+b.length<=1099511627776):Ev L 70 [.sl q1 (a.map BG),.sl q2 (b.map BG)] (.sl false ((dg (val a*val b)).map BG)):=by
 have l1:=HH hA;have l2:=HH hB;have d1:=GA (val a);have d2:=GA (val b);have v1:=CX (val a);have v2:=CX (val b);refine Ev.x N.RZ rfl rfl ?_;have hz : ∀ p:Prop,((dg (val a)).length:Int)=0\/((dg (val b)).length:Int)=0->BF (.sl false []) (.sl false ((dg (val a*val b)).map BG)):=λ_ h=>by
  have:val a*val b=0:=by
   rcases h with h|h
   ·have:dg (val a)=[]:=List.eq_nil_of_length_eq_zero (by omega)
    rw[mH.1 this,Nat.zero_mul]
   ·have:dg (val b)=[]:=List.eq_nil_of_length_eq_zero (by omega)
    rw[mH.1 this,Nat.mul_zero]
  exact BU (by rw[this,HP];rfl) (by simp only[B4,true_and];exact EI _)
 (repeat' ((first|(apply BB<;>intro hc<;>try omega)|(apply BS;omega)|apply BR|apply A7|refine QD (QS N a _ hA (by omega)) ?_|refine QD (QS N b _ hB (by omega)) ?_)<;>conv=>whnf))
 ·exact hz True (Or.inl hc)
 ·exact hz True (Or.inr hc)
 ·clear hz
  generalize dg (val a)=x at *;generalize dg (val b)=y at *;rw[<-v1,<-v2];have nk:x.length+y.length<=1099511627776:=by omega
  clear v1 v2 hA hB Tg l1 l2;refine NQ (enc:=BG) 0 (x.length+y.length) rfl (by omega) (by omega) ?_;(conv=>whnf)
  (repeat' (apply BR<;>conv=>whnf))
  refine PL (λ i _=>x.length-i) (λ(i:Nat) (o:List Nat)=>i<=x.length/\o.length=x.length+y.length/\BZ o/\val o=val (x.take i)*val y /\ ∀ k,i+y.length<=k->k<o.length->o[k]? = some 0) (λ i o=>[(34,.int .i64 i)]) (λ i o=>[(31,31,.rw 1 (o.map BG))]) 0 (List.replicate (x.length+y.length) 0) ⟨by omega,by simp,PG _,by simp [val,kD],λ k h1 h2=>by simp at h2;simp [h2]⟩ ?_;intro i O ⟨p1,p2,p3,p4,p5⟩ ih;by_cases hi:i<x.length
  ·obtain ⟨d,hd⟩ : ∃ d,x[i]? = some d:=⟨_,zE hi⟩
   have du:=d1.at hd;(repeat' ((first|(apply BB<;>intro hc<;>try omega)|(apply BS;omega)|apply BR|(refine CT (by assumption) ?_ rfl ?_;omega)|apply A7)<;>conv=>whnf))
   ·refine C5 [] (by (conv=>whnf);exact ⟨rfl,rfl,rfl⟩) (ih (i+1) O (by omega) ⟨by omega,p2,p3,?_,λ k h1 h2=>p5 k (by omega) h2⟩)
    rw[GD hd,p4,show d=0 by omega,Nat.mul_zero,Nat.add_zero]
   ·refine J1 (λ j _ _=>y.length-j) (λ(j:Nat) (o:List Nat) (c:Nat)=>j<=y.length/\o.length=x.length+y.length/\BZ o/\c<4294967296/\val o+4294967296^(i+j)*c=val O+4294967296^i*(d*val (y.take j)) /\ ∀ k,i+j<=k->o[k]? = O[k]?) (λ j o c=>[(10,.int .u64 (c:Int)),(43,.int .i64 j)]) (λ j o c=>[(31,31,.rw 1 (o.map BG))]) 0 O 0 ⟨by omega,p2,p3,by omega,by simp [val],λ_ _=>rfl⟩ ?_
    intro j o c ⟨r1,r2,r3,r4,r5,r6⟩ jh;have e1:((i:Int)+j).toNat=i+j:=by omega
    by_cases hj:j<y.length
    ·obtain ⟨w,hw⟩ : ∃ w,y[j]? = some w:=⟨_,zE hj⟩
     have Lb:=d2.at hw;have hm:=aE du Lb;(repeat' ((first|(apply BB<;>intro hc<;>try omega)|(apply B7;omega)|(apply BS;omega)|(apply JS;omega)|(apply V0;omega)|(apply DL;omega)|apply JL|(refine CT (by assumption) ?_ rfl ?_;omega)|(refine sH (by assumption) ?_ (λ v hv hb => ?_);omega)|apply A7)<;>conv=>whnf))
     refine fP (i+j) (by omega) (by omega) ?_;(conv=>whnf)
     (repeat' ((first|(apply BS;omega)|apply IK)<;>conv=>whnf))
     refine C5 [] (by (conv=>whnf);exact ⟨rfl,rfl,rfl⟩) (jh (j+1) _ _ (by omega) ⟨by omega,by simpa using r2,r3.set _ (by omega),by omega,?_,?_⟩)
     ·have h1:=jY (v:=(d*w+v+c)%4294967296) hv
      have h2:=V8 0 (4294967296^(i+j)) (d*w+v+c);rw[GD hw,show i+(j+1)=i+j+1 by omega,Nat.pow_succ (4294967296) (i+j)];have h3:4294967296^i*(d*(val (y.take j)+4294967296^j*w))=4294967296^i*(d*val (y.take j))+4294967296^(i+j)*(d*w):=by rw[Nat.pow_add];grind
      rw[h3];generalize 4294967296^(i+j)=P at *;rw[Nat.mul_add P,Nat.mul_add P]at h2;omega
     ·intro k hk
      rw[List.getElem?_set_ne (by omega)];exact r6 k (by omega)
    ·obtain rfl:j=y.length:=by omega
     clear jh;(repeat' ((first|(apply BB<;>intro hc<;>try omega)|(apply B7;omega)|(apply BS;omega)|(apply GP;omega)|apply BR|apply A7)<;>conv=>whnf))
     have hz:=r6 (i+y.length) (by omega);rw[p5 (i+y.length) (by omega) (by omega)]at hz;refine fP (i+y.length) (by omega) (by omega) ?_;(conv=>whnf)
     (repeat' ((first|(apply BS;omega)|fail)<;>conv=>whnf))
     refine C5 [] (by (conv=>whnf);exact ⟨rfl,rfl,rfl⟩) (ih (i+1) _ (by omega) ⟨by omega,by simpa using r2,r3.set _ (by omega),?_,?_⟩)
     ·have h1:=jY (v:=c) hz
      rw[Nat.mul_zero,Nat.add_zero]at h1;rw[h1,r5,p4,E9 (Nat.le_refl _),GD hd,Nat.add_mul,Nat.mul_assoc]
     ·intro k h1 h2
      rw[List.length_set]at h2;rw[List.getElem?_set_ne (by omega),r6 k (by omega)];exact p5 k (by omega) (by omega)
  ·obtain rfl:i=x.length:=by omega
   clear ih;rw[E9 (Nat.le_refl _)]at p4;rw[<-p4,<-p2];(repeat' ((first|(apply BB<;>intro hc<;>try omega)|apply A7)<;>conv=>whnf))
   clear p5;refine OO 1000 N.I4 rfl rfl ?_;(repeat' (apply A7<;>conv=>whnf))
   refine QV (λ n=>n) (λ(n:Nat)=>n<=(O).length /\ ∀ i,n<=i->i<(O).length->(O)[i]? = some 0) (λ n=>[(3,.int .i64 n)]) (λ_=>[]) [] [] (O).length (by first|exact (by (conv=>whnf);exact ⟨rfl,rfl,rfl⟩)|(simp only[List.length_set,List.length_replicate];exact (by (conv=>whnf);exact ⟨rfl,rfl,rfl⟩))) ⟨Nat.le_refl _,λ i h1 h2=>by omega⟩ ?_;intro n ⟨p1,p2⟩ ih;rcases n with _|n
   ·(repeat' ((first|(apply BB<;>intro hc<;>try omega)|apply A7)<;>conv=>whnf))
    refine NN 0 (by omega) (by omega) ?_;(conv=>whnf)
    refine ⟨rfl,_,rfl,?_⟩;(conv=>whnf)
    have hm:=p1;have dm:=JX (l:=O) (by assumption) p1 p2 (Or.inl rfl);clear ih p1 p2;(refine N9 (enc:=BG) (λ_=>rfl) (by omega) ?_;(conv=>whnf);exact BU (by rw[<-dm];rfl) (by simp only[B4,true_and];exact EI _))
   ·have e1:((n+1:Nat):Int)-1=n:=by omega
    (repeat' ((first|(apply BB<;>intro hc<;>try omega)|(apply B7;omega)|(apply DC;omega)|(refine X1 (by assumption) ?_ (λ v hv hb => ?_);omega)|apply A7)<;>conv=>whnf))
    ·rw[e1]
     exact D0 [] (ih n (by omega) ⟨by omega,λ i h1 h2=>by
      by_cases h:i=n
      ·subst h
       rw[e1,Int.toNat_natCast]at hv;rw[hv];congr 1;omega
      ·exact p2 i (by omega) h2⟩)
    ·refine NN (n+1) (by omega) (by omega) ?_
     (conv=>whnf)
     refine ⟨rfl,_,rfl,?_⟩;(conv=>whnf)
     rw[e1,Int.toNat_natCast]at hv;have hm:=p1;have dm:=JX (l:=O) (by assumption) p1 p2 (Or.inr ⟨_,hv,by omega⟩);clear ih p1 p2 hv;(refine N9 (enc:=BG) (λ_=>rfl) (by omega) ?_;(conv=>whnf);exact BU (by rw[<-dm];rfl) (by simp only[B4,true_and];exact EI _))
end Go.e6
