/-
  The walk by computation is sound: calls, regions, code, loops, functions.
-/
import Derived.Test.YtplhdlbnneoobaaGreatB6
import Derived.Test.YtplhdlbnneoobaaGreatB3
set_option linter.unusedSimpArgs false
set_option linter.unusedVariables false
set_option linter.unnecessarySimpa false
namespace Go.c6
section
variable {σ:GN} {tm:Tm} {M:Mem} {st:St} {L:Lib} {c4:List Nat}
theorem zV {own:AJ} {q:Bool} {d:Nat} : ∀ {e:List AV},GG e=true->e.mapM (snap own q d)=some e
 | [],_=>rfl
 | v::r,h=>by
  have hv:snap own q d v=some v/\GG r=true:=by
   cases v<;>simp only[GG]at h<;>first|cases h|exact ⟨by cases d<;>rfl,h⟩
  rw[List.mapM_cons,hv.1,zV hv.2];rfl
theorem zX {own:AJ} {q:Bool} {d:Nat} : ∀ {e:List AV},NP e=true->e.mapM (snap own q d)=some (e.map nl)
 | [],_=>rfl
 | v::r,h=>by
  have hv:snap own q d v=some (nl v)/\NP r=true:=by
   cases v<;>simp only[NP]at h<;>first|cases h|exact ⟨by cases d<;>rfl,h⟩
  rw[List.mapM_cons,hv.1,zX hv.2];rfl
theorem zW {own:AJ} {q:Bool} {d:Nat} : ∀ {es:List (List AV)},(∀ e∈es,NP e=true)->es.mapM (λ cs:List AV=>cs.mapM (snap own q d))=some (es.map λ e=>e.map nl)
 | [],_=>rfl
 | e::r,h=>by
  rw[List.mapM_cons,zX (h e List.mem_cons_self),zW λ x hx=>h x (List.mem_cons_of_mem _ hx)];rfl
theorem zU {own:AJ} {q:Bool} {d:Nat} : ∀ {es:List (List AV)},(∀ e∈es,GG e=true)->es.mapM (λ cs:List AV=>cs.mapM (snap own q d))=some es
 | [],_=>rfl
 | e::r,h=>by
  rw[List.mapM_cons,zV (h e List.mem_cons_self),zU λ x hx=>h x (List.mem_cons_of_mem _ hx)];rfl
theorem Mc (hs:JH σ st.own M) {q:Bool} {v:AV} {K:AV->Prop} (h:VK q M c4 v K) : ∃ v',(∀ d,snap (st.own.m7 c4) q (d+1) (A7 σ v)=some v')/\K v'/\v ≠ .any/\BM σ v=A7 σ v:=by
 cases v with
 | row key t z off len =>
  have fin : ∀ (z':Nat) (es:List (List AV)),((st.own.m7 c4) (σ key t).1).e8 (σ key t).2=some ⟨z',es⟩->z=z'->AY es off len (λ es=>K (.sl q es)) -> ∃ v',(∀ d,snap (st.own.m7 c4) q (d+1) (A7 σ (.row key t z off len))=some v')/\K v'/\AV.row key t z off len ≠ .any/\BM σ (.row key t z off len)=A7 σ (.row key t z off len):=by
   intro z' es hb hz h;subst hz;obtain ⟨h1,h2,h3⟩:=h;refine ⟨_,λ d => ?_,h3,(by intro e;cases e),rfl⟩;simp only[A7,snap,FD,AJ.get,hb];rw[if_pos ⟨h1,trivial⟩];simp only;rw[zW λ e he=>h2 e (List.mem_of_mem_drop (List.mem_of_mem_take he))];rfl
  simp only[VK]at h;split at h
  ·rename_i s z' es hm
   split at h
   ·cases hz:Nat.beq z z'<;>simp only[hz,cond_true,cond_false]at h
    cases hb:TN s c4<;>simp only[hb,cond_true,cond_false]at h;refine fin z' es ?_ (BJ.1 hz) h;have w6:=hs.e8 _ _ _ (EU hm);rw[hs.site _ _ _ hm]at w6 ⊢;rw[W1 hb];exact w6
   ·exact h.elim
  ·rename_i s rows hm
   split at h
   ·exact h.elim
   ·rename_i i
    split at h
    ·obtain ⟨z',es,g,h⟩:=h
     cases hz:Nat.beq z z'<;>simp only[hz,cond_true,cond_false]at h;exact fin z' es (hs.e8 key (i+1) (.rw z' es) (by simp [c5,hm,g])) (BJ.1 hz) h
    ·rename_i b r
     cases hb:U6 (b::r)<;>simp only[hb,cond_true,cond_false]at h;obtain ⟨z',es,g,h⟩:=h;cases hz:Nat.beq z z'<;>simp only[hz,cond_true,cond_false]at h;have g':c5 M key (i+1)=some (.rw z' es):=by simp [c5,hm,g]
     refine fin z' es ?_ (BJ.1 hz) h;rw[mJ (hs.low _ _ _ g' rfl) hb];exact hs.e8 key (i+1) (.rw z' es) g'
  ·exact h.elim
 | int k n=>exact ⟨_,λ d=>rfl,h,(by intro e;cases e),rfl⟩
 | bool b=>exact ⟨_,λ d=>rfl,h,(by intro e;cases e),rfl⟩
 | sl l es=>exact ⟨_,λ d=>rfl,h,(by intro e;cases e),rfl⟩
 | aj c=>exact ⟨_,λ d=>rfl,h,(by intro e;cases e),rfl⟩
 | nil=>exact ⟨_,λ d=>rfl,h,(by intro e;cases e),rfl⟩
 | _=>exact (h:False).elim
theorem Np (hs:JH σ st.own M) {q:Bool} : ∀ {l:List AV} {K:List AV->Prop},fE q M c4 l K -> ∃ l',(∀ d,(l.map (A7 σ)).mapM (snap (st.own.m7 c4) q (d+1))=some l')/\K l'
 | [],K,h=>⟨[],λ d=>rfl,h⟩
 | v::r,K,h=>by
  obtain ⟨v',h1,h2,_⟩:=Mc hs (show VK q M c4 v λ v'=>fE q M c4 r λ r'=>K (v'::r') from h);obtain ⟨l',h3,h4⟩:=Np hs h2;refine ⟨v'::l',λ d => ?_,h4⟩;rw[List.map_cons,List.mapM_cons,h1 d,h3 d];rfl
theorem Nn (hs:JH σ st.own M) {q:Bool} : ∀ {l:List (List AV)} {K:List (List AV)->Prop},nM q M c4 l K -> ∃ l',(∀ d,(l.map λ cs=>cs.map (A7 σ)).mapM (λ cs:List AV=>cs.mapM (snap (st.own.m7 c4) q (d+1)))=some l')/\K l'
 | [],K,h=>⟨[],λ d=>rfl,h⟩
 | v::r,K,h=>by
  obtain ⟨v',h1,h2⟩:=Np hs (show fE q M c4 v λ v'=>nM q M c4 r λ r'=>K (v'::r') from h);obtain ⟨l',h3,h4⟩:=Nn hs h2;refine ⟨v'::l',λ d => ?_,h4⟩;rw[List.map_cons,List.mapM_cons,h1 d,h3 d];rfl
theorem nA {own:AJ} {q:Bool} {d:Nat} {k:Nat} : ∀ {rows:List (Option (Nat × List (List AV)))} {i:Nat},(∀ j z es,rows[j]? = some (some (z,es))->(own (σ k (i+j+1)).1).e8 (σ k (i+j+1)).2=some ⟨z,es⟩ /\ ∀ e∈es,GG e=true) ->
  (B7 σ k i rows).mapM (λ cs:List AV=>cs.mapM (snap own q (d+1)))=some (RG q rows)
 | [],i,h=>rfl
 | none::r,i,h=>by
  rw[B7,List.mapM_cons,nA (i:=i+1) λ j z es hj=>by
   have:=h (j+1) z es (by simpa using hj)
   rwa [show i+(j+1)+1=i+1+j+1 by omega]at this]
  rfl
 | some (z,es)::r,i,h=>by
  rw[B7,List.mapM_cons,nA (i:=i+1) λ j z es hj=>by
   have:=h (j+1) z es (by simpa using hj)
   rwa [show i+(j+1)+1=i+1+j+1 by omega]at this]
  obtain ⟨h1,h2⟩:=h 0 z es rfl;have:snap own q (d+1) (.row (σ k (i+1)).1 (σ k (i+1)).2 z 0 es.length)=some (.sl q es):=by
   simp only[snap,FD,AJ.get];rw[show (own (σ k (i+1)).1).e8 (σ k (i+1)).2=some ⟨z,es⟩ from h1];simp only[Nat.zero_add,Nat.le_refl,and_self,if_true,List.drop_zero];rw[zT (Nat.le_refl _),zU h2];rfl
  rw[List.mapM_cons,this];rfl
theorem Nm (hs:JH σ st.own M) {q:Bool} {v:AV} {K:AV->Prop} (h:ZY q M c4 v K) : ∃ v',snap (st.own.m7 c4) q 6 (A7 σ v)=some v'/\K v'/\v ≠ .any/\BM σ v=A7 σ v/\C0 (st.own.m7 c4) q (A7 σ v)=some v':=by
 have qf:VK q M c4 v K -> ∃ v',snap (st.own.m7 c4) q 6 (A7 σ v)=some v'/\K v'/\v ≠ .any/\BM σ v=A7 σ v/\C0 (st.own.m7 c4) q (A7 σ v)=some v':=by
  intro h;obtain ⟨v',h1,h2,h3,h4⟩:=Mc hs h;refine ⟨v',h1 5,h2,h3,h4,?_⟩;have:=h1 5
  cases v<;>first|exact this|exact (h:False).elim
 unfold ZY at h;split at h
 ·rename_i key z off len
  split at h
  ·rename_i s z' es hm
   cases hz:Nat.beq z z'<;>simp only[hz,cond_true,cond_false]at h;cases hb:TN s c4<;>simp only[hb,cond_true,cond_false]at h;cases ho:Nat.beq off 0<;>simp only[ho,cond_true,cond_false]at h;obtain rfl:=BJ.1 hz;obtain rfl:=BJ.1 ho;obtain ⟨rfl,h⟩:=h;obtain ⟨l',h1,h2⟩:=Nn hs h;have w6:=hs.e8 _ _ _ (EU hm);rw[hs.site _ _ _ hm]at w6;have key:snap (st.own.m7 c4) q 6 (A7 σ (.row key 0 z 0 es.length))=some (.sl q l'):=by
    simp only[A7,snap,FD,AJ.get,hs.site _ _ _ hm];rw[W1 hb,w6];simp only[A8.e8,Nat.zero_add,List.length_map,Nat.le_refl,and_self,if_true,List.drop_zero];rw[zT (by simp),h1 4];rfl
   exact ⟨_,key,h2,(by intro e;cases e),rfl,key⟩
  ·rename_i s rows hm
   split at h
   ·cases hz:Nat.beq z 1<;>simp only[hz,cond_true,cond_false]at h
    obtain rfl:=BJ.1 hz;obtain ⟨rfl,rfl,h1,h2⟩:=h;have w6:=hs.e8 _ _ _ (EU hm);have key:snap (st.own.m7 []) q 6 (A7 σ (.row key 0 1 0 rows.length))=some (.sl q (RG q rows)):=by
     simp only[A7,snap,FD,AJ.get,AJ.m7];rw[w6];simp only[A8.e8,Nat.zero_add,F6,Nat.le_refl,and_self,if_true,List.drop_zero];rw[zT (by rw[F6];exact Nat.le_refl _),nA (i:=0) λ j z es hj=>⟨by
      have:=hs.e8 key (j+1) (.rw z es) (by simp [c5,hm,hj])
      simpa [A8.e8] using this,h1 z es (zM hj)⟩]
     rfl
    exact ⟨_,key,h2,(by intro e;cases e),rfl,key⟩
   ·exact h.elim
  ·exact qf h
 ·exact qf h
theorem Md (hs:JH σ st.own M) {q:Bool} : ∀ {l:List AV} {K:List AV->Prop},nN q M c4 l K -> ∃ l',(l.map (A7 σ)).mapM (snap (st.own.m7 c4) q 6)=some l'/\K l'
 | [],K,h=>⟨[],rfl,h⟩
 | v::r,K,h=>by
  obtain ⟨v',h1,h2,_⟩:=Nm hs (show ZY q M c4 v λ v'=>nN q M c4 r λ r'=>K (v'::r') from h);obtain ⟨l',h3,h4⟩:=Md hs h2;refine ⟨v'::l',?_,h4⟩;rw[List.map_cons,List.mapM_cons,h1,h3];rfl
theorem fD (hs:JH σ st.own M) {q:Bool} {v:AV} {K:AV->Prop} (h:SR q M c4 v K) : ∃ v',C0 (st.own.m7 c4) q (BC σ v)=some v'/\K v'/\v ≠ .any/\BC σ v=BM σ v:=by
 cases v with
 | agg cs =>
  simp only[SR]at h;obtain ⟨l',h1,h2⟩:=Md hs h;refine ⟨.agg l',?_,h2,(by intro e;cases e),rfl⟩;simp only[J2,C0,h1,Option.map_some]
 | g8 vs=>exact (h:False).elim
 | fn p f g cs=>exact (h:False).elim
 | any=>exact (h:False).elim
 | _ =>
  simp only[SR]at h;obtain ⟨v',h1,h2,h3,h4,h5⟩:=Nm hs h;exact ⟨v',h5,h2,h3,rfl⟩
theorem fH (hr:RX σ tm M st) : ∀ {xs:List AU} {K:List AV->Prop},ZZ tm M c4 xs K -> ∃ vs,(xs.map st.ev).mapM (C0 (st.own.m7 c4) true)=some vs/\K vs
 | [],K,h=>⟨[],rfl,h⟩
 | x::r,K,h=>by
  obtain ⟨v',h1,h2,h3,_⟩:=fD hr.sat (show SR true M c4 (ex tm x) λ v=>ZZ tm M c4 r λ vs=>K (v::vs) from h);obtain ⟨l',h4,h5⟩:=fH hr h2;refine ⟨v'::l',?_,h5⟩;rw[List.map_cons,List.mapM_cons,hr.ev rfl h3,h1,h4];rfl
theorem AkL (hs:JH σ st.own M) {v:AV} {K:AV->Prop} (h:fG M c4 v K) : ∃ v',RK (st.own.m7 c4) true (BC σ v)=some v'/\K v'/\v ≠ .any/\BC σ v=BM σ v:=by
 cases v with
 | nil=>exact ⟨.nil,rfl,h,(by intro e;cases e),rfl⟩
 | _ =>
  simp only[fG]at h;obtain ⟨v',h1,h2,h3,h4⟩:=fD hs h;exact ⟨v',h1,h2,h3,h4⟩
theorem Me (hr:RX σ tm M st) : ∀ {xs:List AU} {K:List AV->Prop},nO tm M c4 xs K -> ∃ vs,(xs.map st.ev).mapM (RK (st.own.m7 c4) true)=some vs/\K vs
 | [],K,h=>⟨[],rfl,h⟩
 | x::r,K,h=>by
  obtain ⟨v',h1,h2,h3,_⟩:=AkL hr.sat (show fG M c4 (ex tm x) λ v=>nO tm M c4 r λ vs=>K (v::vs) from h);obtain ⟨l',h4,h5⟩:=Me hr h2;refine ⟨v'::l',?_,h5⟩;rw[List.map_cons,List.mapM_cons,hr.ev rfl h3,h1,h4];rfl
theorem YT (hr:RX σ tm M st) : ∀ {xs:List AU} {K:List AV->Prop},WG tm xs K -> ∃ vs,xs.map st.ev=vs.map (BC σ)/\K vs
 | [],K,h=>⟨[],rfl,h⟩
 | x::r,K,h=>by
  obtain ⟨h1,h2⟩:=cR (show fV (ex tm x) λ v=>WG tm r λ vs=>K (v::vs) from h);obtain ⟨vs,h3,h4⟩:=YT hr h2;exact ⟨ex tm x::vs,by rw[List.map_cons,List.map_cons,hr.ev rfl h1,h3],h4⟩
theorem rD {v:AV} (h:AZ v):A7 σ v=v:=by
 cases v<;>first|rfl|(simp only[AZ]at h)
theorem rB : ∀ {l:List AV},BS l->l.map (A7 σ)=l
 | [],_=>rfl
 | v::r,h=>by
  simp only[BS]at h;rw[List.map_cons,rD h.1,rB h.2]
theorem rE {v:AV} (h:AZ v):BM σ v=v:=by
 cases v with
 | agg cs=>simp only[AZ]at h;simp only[BM,rB h]
 | fn p f g cs=>simp only[AZ]at h
 | _=>exact rD (σ:=σ) h
theorem rC : ∀ {l:List AV},BS l->l.map (BM σ)=l
 | [],_=>rfl
 | v::r,h=>by
  simp only[BS]at h;rw[List.map_cons,rE h.1,rC h.2]
theorem iL {v:AV} (h:AZ v):BC σ v=v:=by
 cases v with
 | g8 cs=>simp only[AZ]at h;simp only[BC,rC h]
 | _=>exact rE (σ:=σ) h
theorem Od {I:List AV->Option (AV × AJ)} {vs:List AV} {r:AV} (h:JT I vs=some r):AZ r:=by
 unfold JT at h;split at h
 ·split at h
  ·split at h
   ·obtain rfl:=Option.some.inj h
    assumption
   ·cases h
  ·cases h
 ·cases h
theorem Ev.clean {f:Nat} {vs:List AV} {r:AV} (h:Ev L f vs r):AZ r:=by
 obtain ⟨n,h⟩:=h;unfold ID LS at h;split at h
 ·split at h
  ·rename_i r1 r2 h1 h2
   split at h
   ·obtain rfl:=Option.some.inj h
    exact Od h1
   ·cases h
  ·cases h
 ·exact Od h
theorem RX.put (h:RX σ tm M st) (d:Nat) {v v':AV} (e:v'=BC σ v):RX σ ((d,v)::tm) M ⟨gv st.tm d v',st.own⟩:=by
 refine ⟨λ j => ?_,h.sat⟩;simp only[tg,Z9];cases hb:Nat.beq j d
 ·rw[if_neg (GO.1 hb)];exact h.tm j
 ·rw[if_pos (BJ.1 hb)];exact Or.inr e
theorem zY : ∀ {cs:List AV},ZG cs=true->cs.map (BC σ)=cs.map (A7 σ)
 | [],_=>rfl
 | v::r,h=>by
  simp only[ZG]at h;cases hv:mK v<;>simp only[hv,cond_true,cond_false]at h
  ·cases h
  ·rw[List.map_cons,List.map_cons,zY h]
   cases v<;>first|rfl|(simp [mK]at hv)
theorem AfO {v:AV} (h:HM v=true):A7 σ v=v:=by cases v<;>first|rfl|(simp [HM]at h)
theorem sW : ∀ {cs:List AV},cs.all HM=true->cs.map (A7 σ)=cs
 | [],_=>rfl
 | c::r,h=>by
  simp only[List.all_cons,Bool.and_eq_true]at h;rw[List.map_cons,AfO h.1,sW h.2]
theorem sX : ∀ {vs:List AV},vs.all dq=true->vs.map (BC σ)=vs
 | [],_=>rfl
 | v::r,h=>by
  simp only[List.all_cons,Bool.and_eq_true]at h;rw[List.map_cons,sX h.2];congr 1;cases v with
  | agg cs=>simp only[BC,BM,sW (show cs.all HM=true from h.1)]
  | _=>first|rfl|(simp [dq,HM]at h)
theorem AiS {r:AV} (hc:AZ r) (hf:JG r):BC σ (vj r)=vj r:=by
 cases r with
 | agg cs =>
  simp only[vj,BC,BM];congr 1;rw[List.map_map];refine List.map_congr_left λ c kf => ?_
  have:=hf c kf
  cases c<;>first|rfl|exact this.elim
 | _=>first|rfl|exact hf.elim
theorem AiP {c:AV} (h:AZ c):A7 σ (HO c)=HO c:=by
 cases c<;>first|(simp only[HO,A7];done)|(simp only[AZ]at h;done)
theorem AiQ {r:AV} (h:AZ r) (hd:T3 r):BC σ (LN r)=LN r:=by
 cases r with
 | agg cs =>
  simp only[AZ]at h;have : ∀ cs:List AV,BS cs->(IR cs).map (A7 σ)=IR cs:=by
   intro cs;induction cs with
   | nil=>intro _;simp [IR]
   | cons c l ih =>
    intro h;simp only[BS]at h;rw[IR,List.map_cons,ih h.2,AiP h.1]
  simp only[LN,BC,BM,this cs h]
 | g8=>exact hd.elim
 | fn=>exact hd.elim
 | _=>first|(simp only[LN,HO,BC,BM,A7];done)|(simp only[AZ]at h;done)
theorem AiR {r:AV} (h:AZ r) (hd:JG r\/T3 r):BC σ (MV r)=MV r:=by
 by_cases hf:JG r
 ·rw[lO hf];exact AiS h hf
 ·rw[lN hf];exact AiQ h (hd.resolve_left hf)
theorem xN : ∀ {l:List AV},cW l=true->l.map (BC σ)=l
 | [],_=>rfl
 | .int _ _::r,h=>by
  rw[List.map_cons,xN (l:=r) h];rfl
theorem Adr {K:AV->Mem->Prop} (hr:RX σ tm M st) {op:EH} (h:XE L tm M c4 K op):BZ L tm c4 K op st\/(∃ f xs,op = .call f xs)\/(∃ f xs,op = .g6 f xs)\/(∃ x xs,op = .m8 x xs)\/(∃ f xs,op = .m5 f xs)\/(∃ s f xs,op = .o5 s f xs) \/ ∃ s f xs,op = .aq s f xs:=by
 cases op with
 | call f xs=>exact Or.inr (Or.inl ⟨_,_,rfl⟩)
 | g6 f xs=>exact Or.inr (Or.inr (Or.inl ⟨_,_,rfl⟩))
 | m8 x xs=>exact Or.inr (Or.inr (Or.inr (Or.inl ⟨_,_,rfl⟩)))
 | m5 f xs=>exact Or.inr (Or.inr (Or.inr (Or.inr (Or.inl ⟨_,_,rfl⟩))))
 | o5 s f xs=>exact Or.inr (Or.inr (Or.inr (Or.inr (Or.inr (Or.inl ⟨_,_,_,rfl⟩)))))
 | aq s f xs=>exact Or.inr (Or.inr (Or.inr (Or.inr (Or.inr (Or.inr ⟨_,_,_,rfl⟩)))))
 | mi s n x v=>exact Or.inl (Yu hr h)
 | oy ne x=>exact Or.inl (Adt hr h)
 | bad=>exact (show False from h).elim
 | eo tb x=>exact Or.inl (Ys hr h)
 | mf p f xs=>exact Or.inl (Adx hr h)
 | a6 x=>exact Or.inl (Adz hr h)
 | y8 s z=>exact Or.inl (Yw hr h)
 | pick c a b=>exact Or.inl (Yr hr h)
 | bin o x y=>exact Or.inl (Zz hr h)
 | beq ne x y=>exact Or.inl (Zy hr h)
 | un o x=>exact Or.inl (Yv hr h)
 | conv k x=>exact Or.inl (Adn hr h)
 | box s x=>exact Or.inl (Adk hr h)
 | alloc s z=>exact Or.inl (Zu hr h)
 | build z ps=>exact Or.inl (Adm hr h)
 | b7 s z ps=>exact Or.inl (Adl hr h)
 | a5 x o=>exact Or.inl (Adp hr h)
 | lq x o n a=>exact Or.inl (Adq hr h)
 | a8 a z x i=>exact Or.inl (Ads hr h)
 | ld a n x=>exact Or.inl (Adu hr h)
 | st n x v=>exact Or.inl (pW hr h)
 | mk s z b ze l c=>exact Or.inl (Adw hr h)
 | cj z x lo hi=>exact Or.inl (Yt hr h)
 | ext x i=>exact Or.inl (Ado hr h)
 | len x=>exact Or.inl (Adv hr h)
 | mm m xs=>exact Or.inl (Ady hr h)
 | app s z b x y=>exact Or.inl (Zv hr h)
theorem gU {K:AV->Mem->Prop} (hr:RX σ tm M st) {op:EH} {d:Option Nat} {g:Option (Nat × Bool)} {l:List AI} {k:List It} {Q:St->Prop} (h:XE L tm M c4 K op) (hg:GQ st g=some true)
  (hk : ∀ σ' v v' M' l8,K v M'->v'=BC σ' v->RX σ' tm M' ⟨st.tm,l8⟩->AO L l k ⟨((⟨st.tm,l8⟩:St).dst d v').tm,l8⟩ Q):AO L (⟨d,op,g,c4⟩::l) k st Q:=by
 rcases Adr hr h with ⟨E,σ',v,M',h1,h2,h3,h4⟩|⟨f,xs,rfl⟩|⟨f,xs,rfl⟩|⟨x,xs,rfl⟩|⟨f,xs,rfl⟩|⟨s,f,xs,rfl⟩|⟨s,f,xs,rfl⟩
 ·rw[Wn hg h1,iB]
  have:=hk σ' v _ M' _ h2 h3 h4
  cases d<;>exact this
 ·simp only[XE]at h
  obtain ⟨vs,h1,r,h2,h3⟩:=fH hr h;rw[Yb hg h1 h2];have:=hk σ r r M st.own h3 (iL h2.clean).symm hr
  cases d<;>exact this
 ·simp only[XE]at h
  obtain ⟨vs,h1,h2⟩:=YT hr h;obtain ⟨r,l8,σ',M',h3,h4,h5,h6⟩:=h2 σ st.own hr.sat;rw[<-h1]at h3;rw[Yd hg h3];have:=hk σ' r _ M' l8 h6 rfl ⟨λ j=>by rw[h5 j];exact hr.tm j,h4⟩
  cases d<;>exact this
 ·simp only[XE]at h
  split at h
  ·rename_i f g' e1
   obtain ⟨h0,h⟩:=h;obtain ⟨vs,h1,r,h2,h3⟩:=fH hr h;have e2:=hr.ev e1 (by intro e;cases e);rw[eL,List.map_nil,h0]at e2;rw[Ye hg e2 h1 h2];have:=hk σ r r M st.own h3 (iL h2.clean).symm hr
   cases d<;>exact this
  ·rename_i f g' c cs e1
   obtain ⟨h0,h⟩:=h;obtain ⟨v',h1,h,_,_⟩:=fD hr.sat h;obtain ⟨vs,h2,r,h3,h4⟩:=fH hr h;have e2:=hr.ev e1 (by intro e;cases e);rw[eL,h0]at e2;have h5:(AV.agg (c::cs |>.map (A7 σ))::xs.map st.ev).mapM (C0 st.own true)=some (v'::vs):=by
    rw[List.mapM_cons,show C0 st.own true (AV.agg (c::cs |>.map (A7 σ)))=some v' from h1,show (xs.map st.ev).mapM (C0 st.own true)=some vs from h2];rfl
   rw[Yc hg e2 h5 h3];have:=hk σ r r M st.own h4 (iL h3.clean).symm hr
   cases d<;>exact this
  ·rename_i f g' cs e1
   cases ho:ZG cs<;>simp only[ho,cond_true,cond_false]at h;obtain ⟨h0,h⟩:=h;obtain ⟨vs,h1,h2⟩:=YT hr h;rw[IP]at h2;obtain ⟨r,l8,σ',M',h3,h4,h5,h6⟩:=h2 σ st.own hr.sat;rw[List.map_append,<-h1,zY (σ:=σ) ho]at h3;have e2:=hr.ev e1 (by intro e;cases e);rw[eL,h0]at e2;rw[Wj hg e2 h3];have:=hk σ' r _ M' l8 h6 rfl ⟨λ j=>by rw[h5 j];exact hr.tm j,h4⟩
   cases d<;>exact this
  ·exact h.elim
 ·simp only[XE]at h
  obtain ⟨vs,h1,h2⟩:=YT hr h;cases ho:vs.all dq<;>simp only[ho,cond_true,cond_false]at h2;obtain ⟨r,h3,h4,h5⟩:=h2;have e1:xs.map st.ev=vs:=by rw[h1];exact sX ho
  rw[Yf hg (by rw[e1];exact ho) (by rw[e1];exact h3) h4];have:=hk σ (MV r) (MV r) M st.own h5 (AiR h3.clean h4).symm hr
  cases d<;>exact this
 ·simp only[XE]at h
  cases yw:F5 s<;>simp only[yw,cond_true,cond_false]at h;obtain ⟨vs,h1,z,es,n,h2,rfl,h3⟩:=Me hr h;obtain ⟨k',g1,g2,g3⟩:=I2 h3;refine Yg hg h1 h2 ?_;rw[iB];have:=hk (DC σ k' λ_=>(s,st.own.g9 s)) _ (.row s (st.own.g9 s) z 0 es.length) _ _ g3 (by simp only[DL,B1]) (hr.eg (q:=s) g1 g2 (.rw z es) trivial rfl (λ_=>yw))
  cases d<;>exact this
 ·simp only[XE]at h
  obtain ⟨vs,h1,h2⟩:=YT hr h;split at h2
  ·rename_i key rest
   cases hi:cW rest<;>simp only[hi,cond_true,cond_false]at h2;obtain ⟨cells,dp,kd,n,g1,g2,g3,g4,g5⟩:=h2;have dc:=hr.sat.site _ _ _ g1;have w6:=hr.sat.e8 _ _ _ (EU g1);rw[dc]at w6;simp only[A8.e8,KD g2]at w6;have al:xs.map st.ev = .ptr s (σ key 0).2 0 0::rest:=by
    rw[h1,List.map_cons,E4,dc,xN hi]
   have hE:=g4 (σ key 0).2 (st.own s) w6;refine Wk hg (by rw[al];exact hE) ?_;rw[iB];have:=hk σ (.int kd n) (.int kd n) _ _ g5 rfl (hr.Mb g1 trivial (.bx dp) trivial (λ h=>by cases h))
   simp only[A8.e8,KD g3]at this;cases d<;>exact this
  ·exact h2.elim
theorem AhN (hr:RX σ tm M st) {g:Nat} {w:Bool} {b:Bool} (e:tg tm g = .bool b):GQ st (some (g,w))=some (b == w):=by
 rcases hr.tm g with h|h
 ·rw[e]at h;cases h
 ·rw[e]at h
  simp only[GQ,h,IH]
theorem AhO (hr:RX σ tm M st) {g:Nat} {w:Bool} (e:tg tm g = .g8 []):GQ st (some (g,w))=some false:=by
 rcases hr.tm g with h|h
 ·rw[e]at h;cases h
 ·rw[e]at h
  simp only[GQ,h,J3,List.map_nil]
theorem oG {key:Nat} : ∀ (tm:Tm) (j:Nat),tg (Bh key tm) j = .any\/tg (Bh key tm) j=tg tm j
 | [],_=>Or.inl rfl
 | (i,v)::r,j=>by
  simp only[Bh];cases hc:S6 key v<;>cases hb:Nat.beq j i;all_goals simp only[cond_true,cond_false,tg,hb]
  ·exact oG r j
  ·exact Or.inr trivial
  ·exact oG r j
  ·exact Or.inl trivial
theorem AlN {v:AV} {K:Tm->Prop} (h:xk v tm K) : ∃ z7,(∀ j,tg z7 j = .any\/tg z7 j=tg tm j)/\K z7:=by
 unfold xk at h;split at h
 ·rw[WI]at h
  exact ⟨_,λ j=>oG _ j,h⟩
 ·exact ⟨_,λ j=>Or.inr rfl,h⟩
theorem pX {k:List It} {Q:Tm->Mem->Prop} : ∀ {l:List AI} {K:Tm->Mem->Prop} {tm:Tm} {M:Mem},XO L l K tm M->(∀ z7 M',K z7 M'->AA L k z7 M' Q)->oW L l k tm M Q
 | [],K,tm,M,h,hk=>λ σ st hr=>Wl.2 (hk tm M h σ st hr)
 | o::l,K,tm,M,h,hk=>by
  intro σ st hr;have h:XI L o (XO L l) K tm M:=h;have ih : ∀ z7 M',XO L l K z7 M'->oW L l k z7 M' Q:=λ z7 M' h'=>pX h' hk
  have some_ : ∀ (d:Nat) (op:EH) (g:Option (Nat × Bool)) (c4:List Nat),GQ st g=some true->XE L tm M c4 (λ v M=>XO L l K ((d,v)::tm) M) op->AO L (⟨some d,op,g,c4⟩::l) k st (SQ Q):=by
   intro d op g c4 hg hx;refine gU hr hx hg ?_;intro σ' v v' M' l8 h1 h2 h3;exact ih _ _ h1 σ' _ (h3.put d h2)
  have zw : ∀ (d:Nat) (u:AV) (op:EH) (c4:List Nat),XE L tm M c4 (λ v M=>xk u tm λ tm=>XO L l K ((d,v)::tm) M) op->AO L (⟨some d,op,none,c4⟩::l) k st (SQ Q):=by
   intro d u op c4 hx;refine gU hr hx rfl ?_;intro σ' v v' M' l8 h1 h2 h3;obtain ⟨z7,g1,g2⟩:=AlN h1;exact ih _ _ g2 σ' _ ((show RX σ' z7 M' ⟨st.tm,l8⟩ from ⟨λ j=>(g1 j).elim Or.inl λ e=>by rw[e];exact h3.tm j,h3.sat⟩).put d h2)
  have none_ : ∀ (op:EH) (g:Option (Nat × Bool)) (c4:List Nat),GQ st g=some true->XE L tm M c4 (λ_ M=>XO L l K tm M) op->AO L (⟨none,op,g,c4⟩::l) k st (SQ Q):=by
   intro op g c4 hg hx;refine gU hr hx hg ?_;intro σ' v v' M' l8 h1 h2 h3;exact ih _ _ h1 σ' _ h3
  have xh : ∀ (d:Option Nat) (op:EH) (g:Option (Nat × Bool)) (c4:List Nat),GQ st g=some false->(match d with|some d=>XO L l K ((d,.g8 [])::tm) M|none=>XO L l K tm M)->AO L (⟨d,op,g,c4⟩::l) k st (SQ Q):=by
   intro d op g c4 hg hx;rw[Wm hg];cases d with
   | none=>exact ih _ _ hx σ _ hr
   | some d=>exact ih _ _ hx σ _ (hr.put d rfl)
  obtain ⟨d,op,g,c4⟩:=o;cases g with
  | none =>
   cases d with
   | none=>exact none_ op none c4 rfl h
   | some d =>
    cases op with
    | app s z b x y=>exact zw d (ex tm x) (.app s z b x y) c4 h
    | _=>exact some_ d _ none c4 rfl h
  | some gw =>
   obtain ⟨g,w⟩:=gw;have h:(match tg tm g with
    | .bool b=>fB (b == w) λ c=>match c,d with
     | true,some d=>XE L tm M c4 (λ v M=>XO L l K ((d,v)::tm) M) op
     | true,none=>XE L tm M c4 (λ_ M=>XO L l K tm M) op
     | false,some d=>XO L l K ((d,.g8 [])::tm) M
     | false,none=>XO L l K tm M
    | .g8 []=>match d with
     | some d=>XO L l K ((d,.g8 [])::tm) M
     | none=>XO L l K tm M
    | _=>False):=by cases d<;>cases op<;>exact h
   split at h
   ·rename_i b e
    rw[TF]at h;have hg:=AhN hr (w:=w) e;cases hb:(b == w)<;>rw[hb]at h hg
    ·exact xh d op _ c4 hg (by cases d<;>exact h)
    ·cases d with
     | none=>exact none_ op _ c4 hg h
     | some d=>exact some_ d op _ c4 hg h
   ·rename_i e
    exact xh d op _ c4 (AhO hr e) (by cases d<;>exact h)
   ·exact h.elim
theorem gV {Q:Tm->Mem->Prop} : ∀ {n:Nat} {k:List It} {tm:Tm} {M:Mem},XK L Q n k tm M->AA L k tm M Q
 | 0,k,tm,M,h=>h
 | n+1,[],tm,M,h=>λ σ st hr=>Xv.2 ⟨σ,tm,M,hr,h⟩
 | n+1,it::k,tm,M,h=>by
  have h:XS L Q (XK L Q n) (it::k) tm M:=h;have ih : ∀ k tm M,XK L Q n k tm M->AA L k tm M Q:=λ k tm M h=>gV h
  intro σ st hr;cases it with
  | e8 id=>exact Xm.2 (ih _ _ _ h σ st hr)
  | ln ts ss =>
   simp only[XS,Ahs,WI]at h;cases ss with
   | cons s r=>exact h.elim
   | nil =>
    refine Xq.2 (ih _ _ _ h σ _ ⟨λ j => ?_,hr.sat⟩);rw[Z6,XD,qI,iE,Bool.false_or];cases hc:ts.contains j
    ·simp only[Bool.false_eq_true,if_false,cond_false]
     exact hr.tm j
    ·exact Or.inl rfl
  | lp c=>exact h σ st hr
  | code c =>
   cases c with
   | skip=>exact Ya.2 (ih _ _ _ h σ st hr)
   | ops l d=>exact Xw.2 (pX h (λ z7 M' h'=>ih _ _ _ h') σ st hr)
   | dr c ts ss=>exact Xp.2 (ih _ _ _ h σ st hr)
   | scope c=>exact Xy.2 (ih _ _ _ h σ st hr)
   | seq a b=>exact Xz.2 (ih _ _ _ h σ st hr)
   | cond x a b =>
    simp only[XS]at h;split at h
    ·rename_i b' e
     rw[TF]at h;rw[Xo (hr.ev e (by intro e;cases e))];cases b'
     ·simpa using ih _ _ _ h σ st hr
     ·simpa using ih _ _ _ h σ st hr
    ·exact h.elim
   | block id c=>exact Xn.2 (ih _ _ _ h σ st hr)
   | loop c=>exact Xt.2 (oV.1 (h σ st hr))
   | exit id =>
    simp only[XS]at h;split at h
    ·rename_i k' e
     exact (Xr e).2 (ih _ _ _ h σ st hr)
    ·exact h.elim
   | ret=>exact Xx.2 ⟨σ,tm,M,hr,h⟩
theorem Aj9 (hr:RX σ tm M st) {r:KP} {K:AV->Prop} (h:ZR tm M r K) : ∃ v,F9 st r=some (BC σ v)/\K v/\BC σ v=BM σ v:=by
 cases r with
 | tmp t =>
  simp only[ZR]at h;obtain ⟨h1,h2,h3⟩:=vX (σ:=σ) h;refine ⟨_,?_,h3,h2⟩;rcases hr.tm t with e|e
  ·exact absurd e h1
  ·simp only[F9,e]
   cases hv:tg tm t<;>rw[hv]at h h1<;>first|rfl|exact (h:False).elim
 | cell t agg n =>
  simp only[ZR]at h;split at h
  ·rename_i key i j e
   split at h
   ·rename_i s cs hm
    cases hi:Nat.beq i 0<;>simp only[hi,cond_true,cond_false]at h;obtain rfl:=BJ.1 hi;split at h
    ·rename_i ds hp
     rw[IP]at h;rcases hr.tm t with e'|e'
     ·rw[e]at e';cases e'
     ·have hs:=hr.sat.site _ _ _ hm
      have w6:=hr.sat.e8 _ _ _ (EU hm);rw[hs]at w6;have flat : ∀ v,LQ agg (ds.map (A7 σ))=some (BC σ v)->F9 st (.cell t agg n)=some (BC σ v):=by
       intro v hv;simp only[F9,e',e,E4,AJ.nc,AJ.get,hs,w6,A8.e8,List.getElem?_cons_zero,dQ hp,hv]
      cases agg
      ·simp only[oc]at h
       split at h
       ·rename_i c
        obtain ⟨_,h1,h2⟩:=vY (σ:=σ) h;refine ⟨c,flat c (by rw[h1];rfl),h2,?_⟩;rw[h1];cases c<;>first|rfl|exact (h:False).elim
       ·exact h.elim
      ·exact ⟨.agg ds,flat _ rfl,h,rfl⟩
    ·exact h.elim
   ·exact h.elim
  ·exact h.elim
theorem mV (hr:RX σ tm M st) : ∀ {l:List KP} {K:List AV->Prop},dX tm M l K -> ∃ vs,l.mapM (F9 st)=some (vs.map (BC σ))/\K vs/\vs.map (BC σ)=vs.map (BM σ)
 | [],K,h=>⟨[],rfl,h,rfl⟩
 | r::l,K,h=>by
  obtain ⟨v,h1,h2,h3⟩:=Aj9 hr (show ZR tm M r λ v=>dX tm M l λ vs=>K (v::vs) from h);obtain ⟨vs,h4,h5,h6⟩:=mV hr h2;exact ⟨v::vs,by rw[List.mapM_cons,h1,h4];rfl,h5,by rw[List.map_cons,List.map_cons,h3,h6]⟩
theorem Nl (hs:JH σ st.own M) {q:Bool} : ∀ {l:List AV} {K:List AV->Prop},nL q M l K -> ∃ l',(l.map (BC σ)).mapM (C0 st.own q)=some l'/\K l' /\ ∀ v∈l,BC σ v=BM σ v
 | [],K,h=>⟨[],rfl,h,λ v hv=>by cases hv⟩
 | v::r,K,h=>by
  obtain ⟨v',h1,h2,_,h0⟩:=fD hs (show SR q M [] v λ v'=>nL q M r λ r'=>K (v'::r') from h);obtain ⟨l',h3,h4,h5⟩:=Nl hs h2;refine ⟨v'::l',?_,h4,λ u hu => ?_⟩
  ·rw[List.map_cons,List.mapM_cons,show C0 st.own q (BC σ v)=some v' from h1,h3];rfl
  ·rcases List.mem_cons.1 hu with rfl|hu
   ·exact h0
   ·exact h5 u hu
theorem AkO {own:AJ} {q:Bool} {v v':AV} (h:C0 own q v=some v'):TS own q v=some v':=by
 cases v with
 | g8 vs=>simp [C0,snap]at h
 | _=>exact h
theorem AiX {f:AV->Option AV} {x y:AV} {r l':List AV} (h:(x::y::r).mapM f=some l') : ∃ a b c,l'=a::b::c:=by
 rw[List.mapM_cons,List.mapM_cons]at h;cases hx:f x with
 | none=>rw[hx]at h;cases h
 | some a =>
  cases hy:f y with
  | none=>rw[hx,hy]at h;cases h
  | some b =>
   cases hr:r.mapM f with
   | none=>rw[hx,hy,hr]at h;cases h
   | some c =>
    rw[hx,hy,hr]at h;exact ⟨a,b,c,(Option.some.inj h).symm⟩
theorem pT {fn:AFn} {r:AV} (hr:RX σ tm M st) (h:RW fn r tm M):XX fn r st:=by
 unfold RW at h;obtain ⟨vs,h1,h2,h3⟩:=mV hr h;obtain ⟨l',h4,h5,h6⟩:=Nl hr.sat h2;unfold XX;rw[h1,Option.map_some,Option.bind_some];match vs,l',h4,h5 with
 | [],l',h4,h5 =>
  obtain rfl:=Option.some.inj h4;obtain ⟨e,hc⟩:=h5;exact ⟨by rw[<-e];rfl,hc⟩
 | [v],l',h4,h5 =>
  rw[List.map_cons,List.map_nil,List.mapM_cons]at h4;cases hv:C0 st.own false (BC σ v) with
  | none=>rw[hv]at h4;cases h4
  | some v' =>
   rw[hv]at h4;obtain rfl:=Option.some.inj h4;obtain ⟨e,hc⟩:=h5;exact ⟨by rw[<-e];exact AkO hv,hc⟩
 | v::u::w,l',h4,h5 =>
  obtain ⟨a,b,c,rfl⟩:=AiX (show List.mapM (C0 st.own false) (BC σ v::BC σ u::w.map (BC σ))=some l' from h4);obtain ⟨e,hc⟩:=h5;refine ⟨?_,hc⟩;rw[<-e];have h4:List.mapM (C0 st.own false) (BC σ v::BC σ u::w.map (BC σ))=some (a::b::c):=h4;show Option.map AV.g8 (List.mapM (C0 st.own false) (BC σ v::BC σ u::w.map (BC σ)))=_;rw[h4];rfl
def S8:AV->Bool
 | .agg cs=>EW cs
 | v=>qf v
def LL:List AV->Bool
 | []=>true
 | v::r=>bif S8 v then LL r else false
theorem bV {v:AV} (h:S8 v=true):BC σ v=v:=by
 cases v with
 | agg cs=>simp only[S8]at h;simp only[BC,BM,KD h]
 | _=>first|rfl|cases h
theorem YD {σ:GN} : ∀ {vs:List AV} {i:Nat},LL vs=true -> ∀ j,g7 (CR i vs) j=BC σ (g7 (CR i vs) j)
 | [],_,_,_=>rfl
 | v::r,i,h,j=>by
  simp only[LL]at h;cases hv:S8 v<;>simp only[hv,cond_true,cond_false]at h
  ·cases h
  ·simp only[Aig,Z8]
   split
   ·exact (bV hv).symm
   ·exact YD h j
theorem G4.x {f:Nat} {fn:AFn} {vs:List AV} {r:AV} (hL:L f=some fn) (hp:Nat.beq vs.length fn.ae=true) (hd:LL vs=true) (h:AA L [.code fn.body] (CR 0 vs) [] (RW fn r)):G4 L f vs r:=by
 refine G4.fwd hL (BJ.1 hp) (Xu (h (λ_ _=>(0,0)) ⟨CR 0 vs,AJ.emp⟩ ⟨λ j=>Or.inr ?_,?_⟩) ?_)
 ·rw[LC];exact YD hd j
 ·exact ⟨(λ_ _ _ e=>by cases e),(λ_ _ _ e=>by simp [c5,c9]at e),(λ_ _ _ e=>by simp [c5,c9]at e),(λ_ _ _ _ _ _ e=>by simp [c5,c9]at e),(λ_ _ _ e=>by simp [c5,c9]at e)⟩
 ·rintro s ⟨σ,tm,M,hr,hq⟩
  exact pT hr hq
theorem Ev.x {f:Nat} {fn:AFn} {vs:List AV} {r:AV} (hL:L f=some fn) (hp:Nat.beq vs.length fn.ae=true) (hd:LL vs=true) (h:AA L [.code fn.body] (CR 0 vs) [] (RW fn r)) (hs:fn.ng=false:=by rfl):Ev L f vs r:=(G4.x hL hp hd h).ev hL hs
def G7:List (Nat × Nat)->Nat->Nat
 | [],k=>k
 | (a,b)::r,k=>bif Nat.beq k a then b else G7 r k
def eA (τ:List (Nat × Nat)):AV->AV
 | .row k t z o n => .row (G7 τ k) t z o n
 | .ptr k t i j => .ptr (G7 τ k) t i j
 | v=>v
def TQ (τ:List (Nat × Nat)):List AV->List AV
 | []=>[]
 | v::r=>eA τ v::TQ τ r
def W7 (τ:List (Nat × Nat)):AV->AV
 | .agg cs => .agg (TQ τ cs)
 | .fn p f g cs => .fn p f g (TQ τ cs)
 | v=>eA τ v
def eF (τ:List (Nat × Nat)):List AV->List AV
 | []=>[]
 | v::r=>W7 τ v::eF τ r
def eB (τ:List (Nat × Nat)):AV->AV
 | .g8 cs => .g8 (eF τ cs)
 | v=>W7 τ v
def eG (τ:List (Nat × Nat)):List (List AV)->List (List AV)
 | []=>[]
 | v::r=>TQ τ v::eG τ r
def K8 (τ:List (Nat × Nat)):A8->A8
 | .bx cs => .bx (TQ τ cs)
 | .rw z es => .rw z es
 | .bs z es => .bs z (eG τ es)
 | .mx rows => .mx rows
 | .hx i v rows => .hx i v rows
 | .vw w rows => .vw w rows
variable {τ:List (Nat × Nat)}
theorem ZS : ∀ l:List AV,TQ τ l=l.map (eA τ)
 | []=>rfl
 | v::r=>by rw[TQ,ZS r];rfl
theorem Oq : ∀ l:List AV,eF τ l=l.map (W7 τ)
 | []=>rfl
 | v::r=>by rw[eF,Oq r];rfl
theorem fO (v:AV):A7 (λ k t=>σ (G7 τ k) t) v=A7 σ (eA τ v):=by cases v<;>rfl
theorem nY (v:AV):BM (λ k t=>σ (G7 τ k) t) v=BM σ (W7 τ v):=by
 cases v with
 | agg cs=>simp only[BM,W7,ZS,List.map_map];exact congrArg AV.agg (List.map_congr_left λ v _=>fO v)
 | fn p f g cs=>simp only[BM,W7,ZS,List.map_map];exact congrArg (AV.fn p f g) (List.map_congr_left λ v _=>fO v)
 | _=>rfl
theorem AkU (v:AV):BC (λ k t=>σ (G7 τ k) t) v=BC σ (eB τ v):=by
 cases v with
 | g8 cs=>simp only[BC,eB,Oq,List.map_map];exact congrArg AV.g8 (List.map_congr_left λ v _=>nY v)
 | agg cs=>exact nY (.agg cs)
 | fn p f g cs=>exact nY (.fn p f g cs)
 | _=>rfl
theorem Ot : ∀ l:List (List AV),eG τ l=l.map (TQ τ)
 | []=>rfl
 | v::r=>by rw[eG,Ot r];rfl
theorem ZB {k:Nat} : ∀ (rows:List (Option (Nat × List (List AV)))) (i:Nat),B7 (λ k t=>σ (G7 τ k) t) k i rows=B7 σ (G7 τ k) i rows
 | [],i=>rfl
 | none::r,i=>by rw[B7,B7,ZB r]
 | some (z,es)::r,i=>by rw[B7,B7,ZB r]
theorem Yo (c:A8) (k:Nat):c.e8 (λ k t=>σ (G7 τ k) t) k=(K8 τ c).e8 σ (G7 τ k):=by
 cases c with
 | bx cs =>
  simp only[A8.e8,K8,ZS,List.length_map,List.map_map];rw[List.map_congr_left λ v _=>fO v];rfl
 | rw z es=>rfl
 | bs z es =>
  simp only[A8.e8,K8,Ot,List.map_map];congr 1;refine List.map_congr_left λ cs _ => ?_
  simp only[Function.comp,ZS,List.map_map];exact List.map_congr_left λ v _=>fO v
 | mx rows=>simp only[A8.e8,K8,ZB]
 | hx i v rows=>simp only[A8.e8,K8,ZB]
 | vw w rows=>simp only[A8.e8,K8,ZB]
def su (k s:Nat) (c:A8):Mem->Mem
 | []=>[(k,s,c)]
 | (j,s',c')::r=>bif Nat.beq k j then (k,s,c)::r else (j,s',c')::su k s c r
def pc:Mem->Mem
 | []=>[]
 | (k,s,c)::r=>su k s c (pc r)
def WT:Mem->(Mem->Prop)->Prop
 | [],K=>K []
 | (k,s,c)::r,K=>WT r λ r'=>fM (su k s c r') K
theorem dA : ∀ (M:Mem) (K:Mem->Prop),WT M K=K (pc M)
 | [],_=>rfl
 | (k,s,c)::r,K=>by rw[WT,dA r,Q8];rfl
theorem yY (k s:Nat) (c:A8) (j:Nat) : ∀ M:Mem,c9 (su k s c M) j=bif Nat.beq j k then some (s,c) else c9 M j
 | []=>rfl
 | (i,s',c')::r=>by
  simp only[su];cases hk:Nat.beq k i
  ·simp only[cond_false,c9,yY k s c j r]
   cases hj:Nat.beq j i<;>cases hjk:Nat.beq j k<;>simp only[cond_true,cond_false];exact absurd ((BJ.1 hjk).symm.trans (BJ.1 hj)) (GO.1 hk)
  ·obtain rfl:=BJ.1 hk
   simp only[cond_true,c9];cases Nat.beq j k<;>rfl
theorem WU (j:Nat) : ∀ M:Mem,c9 (pc M) j=c9 M j
 | []=>rfl
 | (k,s,c)::r=>by simp only[pc,yY,WU j r,c9]
theorem dF (k t:Nat):c5 (pc M) k t=c5 M k t:=by simp only[c5,WU]
def vk (τ:List (Nat × Nat)) (M:Mem):List (Nat × Nat × A8)->List (Option (Nat × A8))
 | []=>[]
 | (k,_,_)::r=>c9 M (G7 τ k)::vk τ M r
def vl (τ:List (Nat × Nat)):List (Nat × Nat × A8)->List (Option (Nat × A8))
 | []=>[]
 | (_,s,c)::r=>some (s,K8 τ c)::vl τ r
def He (tm:Tm):Tm->List AV
 | []=>[]
 | (j,_)::r=>tg tm j::He tm r
def Hf (τ:List (Nat × Nat)):Tm->List AV
 | []=>[]
 | (_,v)::r=>eB τ v::Hf τ r
def dI:List Nat->Bool
 | []=>true
 | k::r=>bif KX k r then false else dI r
def keys (τ:List (Nat × Nat)):Mem->List Nat
 | []=>[]
 | (k,_,_)::r=>G7 τ k::keys τ r
theorem yX : ∀ {M':Mem} {M:Mem},vk τ M M'=vl τ M' -> ∀ k s c,c9 M' k=some (s,c)->c9 M (G7 τ k)=some (s,K8 τ c)
 | [],_,_,_,_,_,e=>by cases e
 | (i,s',c')::r,M,h,k,s,c,e=>by
  simp only[vk,vl,List.cons.injEq]at h;simp only[c9]at e;cases hb:Nat.beq k i<;>simp only[hb,cond_true,cond_false]at e
  ·exact yX h.2 k s c e
  ·simp only[Option.some.injEq,Prod.mk.injEq]at e
   obtain ⟨rfl,rfl⟩:=e;rw[BJ.1 hb];exact h.1
theorem lU : ∀ {M:Mem} {k s:Nat} {c:A8},c9 M k=some (s,c)->KX (G7 τ k) (keys τ M)=true
 | (i,s',c')::r,k,s,c,e=>by
  simp only[c9]at e;simp only[keys,KX];cases hb:Nat.beq k i<;>simp only[hb,cond_true,cond_false]at e
  ·rw[lU e];cases Nat.beq (G7 τ k) (G7 τ i)<;>rfl
  ·rw[BJ.1 hb];simp
theorem zN : ∀ {M:Mem},dI (keys τ M)=true -> ∀ {k k' s s':Nat} {c c':A8},c9 M k=some (s,c)->c9 M k'=some (s',c')->G7 τ k=G7 τ k'->k=k'
 | [],_,_,_,_,_,_,_,e,_,_=>by cases e
 | (i,s0,c0)::r,h,k,k',s,s',c,c',e,e',hk=>by
  simp only[keys,dI]at h;cases hm:KX (G7 τ i) (keys τ r)<;>simp only[hm,cond_true,cond_false]at h
  ·simp only[c9]at e e'
   cases hb:Nat.beq k i<;>cases k8:Nat.beq k' i<;>simp only[hb,k8,cond_true,cond_false]at e e'
   ·exact zN h e e' hk
   ·obtain rfl:=BJ.1 k8
    have:=lU (τ:=τ) e
    rw[hk,hm]at this;cases this
   ·obtain rfl:=BJ.1 hb
    have:=lU (τ:=τ) e'
    rw[<-hk,hm]at this;cases this
   ·exact (BJ.1 hb).trans (BJ.1 k8).symm
  ·cases h
theorem Pm : ∀ {z7:Tm} {tm:Tm},He tm z7=Hf τ z7 -> ∀ j,tg z7 j = .any\/tg tm j=eB τ (tg z7 j)
 | [],_,_,_=>Or.inl rfl
 | (i,v)::r,tm,h,j=>by
  simp only[He,Hf,List.cons.injEq]at h;simp only[tg];cases hb:Nat.beq j i<;>simp only[cond_true,cond_false]
  ·exact Pm h.2 j
  ·rw[BJ.1 hb];exact Or.inr h.1
def w5 (ts:List Nat) (tm:Tm):Tm:=match ts with
 | []=>tm
 | t::ts=>sw (mask 0 (t::ts)) tm
def LH (τ:List (Nat × Nat)) (tm:Tm) (M:Mem) (z7:Tm) (M':Mem):Prop :=
 fT (sw 0 z7) λ l=>WT M' λ m=>He tm l=Hf τ l/\vk τ M m=vl τ m/\dI (keys τ m)=true
theorem BN {k:List It} {z7:Tm} {M':Mem} {Q:Tm->Mem->Prop} (τ:List (Nat × Nat)) (he:LH τ tm M z7 M') (h:AA L k z7 M' Q):AA L k tm M Q:=by
 unfold LH at he;rw[WI,dA]at he;obtain ⟨ht,hm,hn⟩:=he;intro σ st hr;have hg : ∀ k s c,c9 M' k=some (s,c)->c9 M (G7 τ k)=some (s,K8 τ c):=λ k s c e=>yX hm k s c (by rw[WU];exact e)
 have Dd : ∀ k t c,c5 M' k t=some c->c5 M (G7 τ k) t=some (K8 τ c):=by
  intro k t c e;obtain ⟨s,c0,g1,g2,g3⟩:=I8 e;have:=hg k s c0 g1
  cases t with
  | zero=>rw[g2 rfl];exact EU this
  | succ i =>
   obtain ⟨rows,z,es,(rfl|⟨a,v,rfl⟩)|⟨w,rfl⟩,hr,rfl⟩:=g3 i rfl
   ·simp [c5,this,K8,hr]
   ·simp [c5,this,K8,hr]
   ·simp [c5,this,K8,hr]
 refine h (λ k t=>σ (G7 τ k) t) st ⟨λ j => ?_,⟨?_,?_,?_,?_,?_⟩⟩
 ·have:=Pm ht j
  rw[Z6,iE,cond_false]at this;rcases this with e|e
  ·exact Or.inl e
  ·rcases hr.tm j with e'|e'
   ·left
    rw[e']at e;cases hv:tg z7 j<;>rw[hv]at e<;>first|rfl|cases e
   ·right
    rw[e',e,AkU]
 ·intro k s c e;exact hr.sat.site _ _ _ (hg k s c e)
 ·intro k t c e;rw[Yo];exact hr.sat.e8 _ _ _ (Dd k t c e)
 ·intro k t c e;exact hr.sat.old _ _ _ (Dd k t c e)
 ·intro k t k' t' c c' e e' hk
  obtain ⟨q1,q2⟩:=hr.sat.inj _ _ _ _ _ _ (Dd _ _ _ e) (Dd _ _ _ e') hk;obtain ⟨s,c0,g,_⟩:=I8 e;obtain ⟨s',c0',g',_⟩:=I8 e';exact ⟨zN hn (by rw[WU];exact g) (by rw[WU];exact g') q1,q2⟩
 ·intro k t c e hw
  exact hr.sat.low _ _ _ (Dd k t c e) (by cases c<;>exact hw)
theorem BB {k:List It} {z7:Tm} {M':Mem} {Q:Tm->Mem->Prop} (τ:List (Nat × Nat)) (h:AA L k z7 M' Q) (he:LH τ tm M z7 M':=by (conv=>whnf);exact ⟨rfl,rfl,rfl⟩):AA L k tm M Q:=BN τ he h
theorem oT {k:List It} {Q:Tm->Mem->Prop} (h:AA L k (sw 0 tm) (pc M) Q):AA L k tm M Q:=by
 intro σ st hr;refine h σ st ⟨λ j => ?_,⟨?_,?_,?_,?_,?_⟩⟩
 ·rw[Z6,iE,cond_false];exact hr.tm j
 ·intro k s c e;rw[WU]at e;exact hr.sat.site _ _ _ e
 ·intro k t c e;rw[dF]at e;exact hr.sat.e8 _ _ _ e
 ·intro k t c e;rw[dF]at e;exact hr.sat.old _ _ _ e
 ·intro k t k' t' c c' e e' hk
  rw[dF]at e e';exact hr.sat.inj _ _ _ _ _ _ e e' hk
 ·intro k t c e hw;rw[dF]at e;exact hr.sat.low _ _ _ e hw
def sv (k:Nat) (c:A8):Mem->Mem
 | []=>[]
 | (j,s,c')::r=>bif Nat.beq k j then (j,s,c)::r else (j,s,c')::sv k c r
theorem dC {k j s:Nat} {c c':A8} : ∀ {M:Mem},c9 (sv k c M) j=some (s,c') -> ∃ c0,c9 M j=some (s,c0)/\(c0=c'\/(j=k/\c'=c))
 | [],e=>by cases e
 | (i,s0,c0)::r,e=>by
  simp only[sv]at e;cases hk:Nat.beq k i<;>simp only[hk,cond_true,cond_false,c9]at e ⊢
  ·cases hj:Nat.beq j i<;>simp only[hj,cond_true,cond_false]at e ⊢
   ·exact dC e
   ·exact ⟨c',e,Or.inl rfl⟩
  ·cases hj:Nat.beq j i<;>simp only[hj,cond_true,cond_false]at e ⊢
   ·exact ⟨c',e,Or.inl rfl⟩
   ·simp only[Option.some.injEq,Prod.mk.injEq]at e
    obtain ⟨rfl,rfl⟩:=e;exact ⟨c0,rfl,Or.inr ⟨(BJ.1 hj).trans (BJ.1 hk).symm,rfl⟩⟩
theorem Xk {kk:List It} {Q:Tm->Mem->Prop} (k s:Nat) (e:c9 M k=some (s,.rw 1 [])) (h:AA L kk tm (sv k (.mx []) M) Q):AA L kk tm M Q:=by
 intro σ st hr;have hg : ∀ j t c,c5 (sv k (.mx []) M) j t=some c -> ∃ c0,c5 M j t=some c0/\c0.e8 σ j=c.e8 σ j:=by
  intro j t c g;obtain ⟨s1,c1,g1,g2,g3⟩:=I8 g;obtain ⟨c0,q1,q2⟩:=dC g1;cases t with
  | zero =>
   rw[g2 rfl];rcases q2 with rfl|⟨rfl,rfl⟩
   ·exact ⟨_,EU q1,rfl⟩
   ·rw[e]at q1
    simp only[Option.some.injEq,Prod.mk.injEq]at q1;obtain ⟨rfl,rfl⟩:=q1;exact ⟨_,EU e,rfl⟩
  | succ i =>
   obtain ⟨rows,z,es,(rfl|⟨a,v,rfl⟩)|⟨w,rfl⟩,zl,rfl⟩:=g3 i rfl
   ·rcases q2 with rfl|⟨rfl,h0⟩
    ·exact ⟨.rw z es,by simp [c5,q1,zl],rfl⟩
    ·obtain rfl:rows=[]:=by simpa using h0
     simp at zl
   ·rcases q2 with rfl|⟨rfl,h0⟩
    ·exact ⟨.rw z es,by simp [c5,q1,zl],rfl⟩
    ·cases h0
   ·rcases q2 with rfl|⟨rfl,h0⟩
    ·exact ⟨.rw z es,by simp [c5,q1,zl],rfl⟩
    ·cases h0
 refine h σ st ⟨hr.tm,⟨?_,?_,?_,?_,?_⟩⟩
 ·intro j s' c g
  obtain ⟨c0,q1,_⟩:=dC g;exact hr.sat.site _ _ _ q1
 ·intro j t c g
  obtain ⟨c0,q1,q2⟩:=hg j t c g;rw[<-q2];exact hr.sat.e8 _ _ _ q1
 ·intro j t c g
  obtain ⟨c0,q1,_⟩:=hg j t c g;exact hr.sat.old _ _ _ q1
 ·intro j t j' t' c c' g g' hj
  obtain ⟨_,q1,_⟩:=hg j t c g;obtain ⟨_,q2,_⟩:=hg j' t' c' g';exact hr.sat.inj _ _ _ _ _ _ q1 q2 hj
 ·intro j t c g hw
  cases t with
  | zero =>
   obtain ⟨s1,c1,g1,g2,g3⟩:=I8 g;obtain ⟨c0,q1,q2⟩:=dC g1;have g2:=g2 rfl;subst g2;rcases q2 with rfl|⟨rfl,rfl⟩
   ·exact hr.sat.low _ _ _ (EU q1) hw
   ·exact hr.sat.low _ _ _ (EU e) rfl
  | succ t =>
   obtain ⟨c0,q1,_⟩:=hg _ _ _ g;exact hr.sat.low _ _ _ q1 (zI q1)
theorem GJ {k:List It} {c:BG} {Q:Tm->Mem->Prop} (h:AA L (.code c :: .lp c::k) tm M Q):AA L (.lp c::k) tm M Q:=λ σ st hr=>oV.2 (h σ st hr)
theorem XL {α:Type} {k:List It} {c:BG} {Q:Tm->Mem->Prop} (m:α->Nat) (P:α->Prop) (vs:α->Tm) (Ms:α->Mem) (ts:List Nat) (τ:List (Nat × Nat)) (a:α)
  (he:LH τ tm M (vs a++w5 ts tm) (Ms a++M)) (hp:P a)
  (step : ∀ a,P a->(∀ a',m a'<m a->P a'->AA L (.lp c::k) (vs a'++w5 ts tm) (Ms a'++M) Q)->AA L (.code c :: .lp c::k) (vs a++w5 ts tm) (Ms a++M) Q):AA L (.lp c::k) tm M Q:=by
 have key : ∀ n a,m a<n->P a->AA L (.lp c::k) (vs a++w5 ts tm) (Ms a++M) Q:=by
  intro n;induction n with
  | zero=>intro a h;omega
  | succ n ih =>
   intro a ha hp;exact GJ (step a hp λ a' h1 h2=>ih a' (by omega) h2)
 exact BN τ he (key (m a+1) a (by omega) hp)
end
end Go.c6
namespace Go.c6
section
variable {α:Type} {enc:α->List AV} {l:List α} {L:Lib}
theorem AG {p q A B:Prop} (h1:p->A) (h2:q->B):AF p q A B:=⟨h1,h2⟩
theorem A2 {p A:Prop} (h1:p) (h2:A):AX p A:=⟨h1,h2⟩
section
variable {K:AV->Prop} {a b:Int} {k k':IntKind} {op:BinOp}
theorem aI {v:AV} (h:C4 op k a k' b=some v) (hk:K v):AC op k a k' b K:=⟨v,h,hk⟩
theorem AQ (hr : -9223372036854775808<=a+b/\a+b<=9223372036854775807) (hk:K (.int .i64 (a+b))):AC .add .i64 a .i64 b K:=⟨_,by simp only[C4,if_true];rw[IntWalk.i64_in _ hr],hk⟩
theorem BL (hr : -9223372036854775808<=a-b/\a-b<=9223372036854775807) (hk:K (.int .i64 (a-b))):AC .sub .i64 a .i64 b K:=⟨_,by simp only[C4,if_true];rw[IntWalk.i64_in _ hr],hk⟩
theorem FW (hr : -9223372036854775808<=a*b/\a*b<=9223372036854775807) (hk:K (.int .i64 (a*b))):AC .mul .i64 a .i64 b K:=⟨_,by simp only[C4,if_true];rw[IntWalk.i64_in _ hr],hk⟩
theorem FX (h:0<=b/\b<=62) (hk:1<=pw b->pw b<=4611686018427387904->K (.int .i64 (pw b))):AC .shl .i64 1 k' b K:=⟨_,AkE h,hk (E0 b) (dV h.2)⟩
theorem pK (h:0<=b/\b<=62) (hk:0<=a%pw b->a%pw b<pw b->K (.int .i64 (a%pw b))):AC .and .i64 a .i64 (pw b-1) K:=⟨_,qD rfl h,hk (Int.emod_nonneg _ (by have:=E0 b;omega)) (Int.emod_lt_of_pos _ (by have:=E0 b;omega))⟩
theorem QP (hb:0<b) (h1:(0<=a\/a%b=0)->0<=a%b->a%b<b->K (.int .i64 (a%b))) (h2:a<0->a%b≠0->0<=a%b->a%b<b->K (.int .i64 (a%b-b))):AC .rem .i64 a .i64 b K:=by
 have h5:0<=a%b:=Int.emod_nonneg _ (by omega);have h6:a%b<b:=Int.emod_lt_of_pos _ hb;have e:C4 .rem .i64 a .i64 b=some (.int .i64 (a.tmod b)):=by simp only[C4];rw[if_pos ⟨trivial,by omega⟩]
 by_cases hc:0<=a\/a%b=0
 ·rw[Pn hb,if_pos hc]at e
  exact ⟨_,e,h1 hc h5 h6⟩
 ·rw[Pn hb,if_neg hc]at e
  exact ⟨_,e,h2 (by omega) (by omega) h5 h6⟩
theorem LI (hb:0<b) (ha : -9223372036854775808<=a/\a<=9223372036854775807) (h1:(0<=a\/a%b=0)->K (.int .i64 (a/b))) (h2:a<0->a%b≠0->K (.int .i64 (a/b+1))):AC .quo .i64 a .i64 b K:=by
 have hr:=AfX (m:=b) (by omega) ha;have e:C4 .quo .i64 a .i64 b=some (.int .i64 (IntKind.i64.wrap (a.tdiv b))):=by simp only[C4];rw[if_pos ⟨trivial,by omega⟩]
 by_cases hc:0<=a\/a%b=0
 ·rw[Pj hb,if_pos hc,IntWalk.i64_in _ hr]at e
  exact ⟨_,e,h1 hc⟩
 ·have AuK:a/b<0:=Int.ediv_neg_of_neg_of_pos (by omega) hb
  rw[Pj hb,if_neg hc,IntWalk.i64_in _ (by omega)]at e;exact ⟨_,e,h2 (by omega) (by omega)⟩
theorem pQ (h:0<=b/\b<=63) (hk:K (.int .i64 (a/pw b))):AC .shr .i64 a k' b K:=⟨_,AkF h,hk⟩
theorem Xf (hk:K (.int .i64 (a%2))):AC .and .i64 a .i64 1 K:=⟨_,Zc,hk⟩
theorem gR (hk:K (.int k (k.wrap (a+b)))):AC .add k a k b K:=⟨_,by simp only[C4,if_true],hk⟩
theorem aP (hk:K (.int k (k.wrap (a-b)))):AC .sub k a k b K:=⟨_,by simp only[C4,if_true],hk⟩
theorem Wb (hk:K (.int k (k.wrap (a*b)))):AC .mul k a k b K:=⟨_,by simp only[C4,if_true],hk⟩
theorem CN.neg (hr : -9223372036854775808 <= -a /\ -a<=9223372036854775807) (hk:K (.int .i64 (-a))):CN .neg .i64 a K:=⟨_,by simp only[TV];rw[show (0:Int)-a = -a by omega,IntWalk.i64_in _ hr],hk⟩
theorem CN.go {op:UnOp} {v:AV} (h:TV op (.int k a)=some v) (hk:K v):CN op k a K:=⟨v,h,hk⟩
end
theorem XQ {k:IntKind} {n:Int} {K:Int->Prop} (e:k.wrap n=n) (h:K n):A0 k n K:=⟨by rw[e];exact h⟩
theorem B3 {n:Int} {K:Int->Prop} (hr:0<=n/\n<=18446744073709551615) (h:K n):A0 .u64 n K:=XQ (IntWalk.u64_in _ hr) h
theorem TZ {n:Int} {K:Int->Prop} (hr : -9223372036854775808<=n/\n<=9223372036854775807) (h:K n):A0 .i64 n K:=XQ (IntWalk.i64_in _ hr) h
theorem A9 {a:Int} {z:Nat} {K:List AV->Prop} {e:α} (he:l[a.toNat]? = some e) (h0:0<=a) (hz:(enc e).length=z) (h:K (enc e)):AR (l.map enc) a z K:=⟨h0,enc e,by simp [he],hz,h⟩
theorem XW {a:Int} {z:Nat} {K:List AV->Prop} (h0:0<=a/\a<l.length) (hz : ∀ e,(enc e).length=z) (h : ∀ e,l[a.toNat]? = some e->K (enc e)):AR (l.map enc) a z K:=by
 have he:l[a.toNat]? = some (l[a.toNat]'(by omega)):=zE _;exact A9 he h0.1 (hz _) (h _ he)
theorem IJ {n z:Nat} {K:List AV->Prop} (hn:n<l.length) (hz : ∀ e,(enc e).length=z) (h : ∀ e,l[n]? = some e->K (enc e)):AR (l.map enc) (n:Int) z K :=
 XW ⟨by omega,by omega⟩ hz h
theorem T9 {i j n:Nat} {K:List AV->Prop} {f:α->List AV} (hi:i<l.length) (hp : ∀ e,part (enc e) j n=some (f e)) (h : ∀ e,l[i]? = some e->K (f e)):BA (l.map enc) (0+((i:Int)).toNat) j n K:=by
 have he:l[i]? = some l[i]:=zE _;rw[Nat.zero_add,Int.toNat_natCast];exact ⟨enc l[i],f l[i],by simp [he],hp _,h _ he⟩
theorem gL {i:Int} {j n:Nat} {K:List AV->Prop} {f:α->List AV} (hi:0<=i/\i<l.length) (hp : ∀ e,part (enc e) j n=some (f e)) (h : ∀ e,l[i.toNat]? = some e->K (f e)):BA (l.map enc) (0+i.toNat) j n K:=by
 have hl:i.toNat<l.length:=by omega
 have he:l[i.toNat]? = some l[i.toNat]:=zE _;rw[Nat.zero_add];exact ⟨enc l[i.toNat],f l[i.toNat],by rw[List.getElem?_map,he];rfl,hp _,h _ he⟩
theorem KB {i:Nat} {vs:List AV} {K:List (List AV)->Prop} (e:α) (he:vs=enc e) (hz : ∀ x,(enc x).length=vs.length) (hi:i<l.length) (h:K ((l.set i e).map enc)):A6 (l.map enc) (0+((i:Int)).toNat) 0 vs K:=by
 rw[Nat.zero_add,Int.toNat_natCast];refine ⟨enc l[i],by simp [zE hi],by rw[hz];omega,?_⟩;rw[show splice (enc l[i]) 0 vs=vs by simp [splice,<-hz l[i]],he,<-List.map_set];exact h
theorem gJ {i j n:Nat} {K:List AV->Prop} {e:α} {ds:List AV} (he:l[i]? = some e) (hp:part (enc e) j n=some ds) (h:K ds):BA (l.map enc) i j n K:=⟨enc e,ds,by simp [he],hp,h⟩
theorem AkP {cs vs:List AV} (h:cs.length=vs.length):splice cs 0 vs=vs:=by
 simp [splice,<-h]
theorem Zt {i:Nat} {vs:List AV} {K:List (List AV)->Prop} (e:α) (he:vs=enc e) (hz : ∀ x,(enc x).length=vs.length) (hi:i<l.length) (h:K ((l.set i e).map enc)):A6 (l.map enc) i 0 vs K:=by
 refine ⟨enc l[i],by simp [zE hi],by rw[hz];omega,?_⟩;rw[AkP (hz _),he,<-List.map_set];exact h
theorem D9 {a b:Int} {bytes:Nat} {zero:List AV} {K:List (List AV)->Nat->Prop} (x:α) (n:Nat) (hx:zero=enc x) (hn:a=n) (hr:a<=b/\b*bytes<=140737488355328/\b<=9223372036854775807) (h:K ((List.replicate n x).map enc) n):BV a b bytes zero K:=by
 subst hn hx;refine ⟨⟨by omega,hr.1,by simpa [FI] using hr.2.1,hr.2.2⟩,?_⟩;simpa using h
theorem Xe {a b:Int} {bytes:Nat} {zero:List AV} {K:List (List AV)->Nat->Prop} (x:α) (hx:zero=enc x) (h0:0<=a) (hr:a<=b/\b*bytes<=140737488355328/\b<=9223372036854775807) (h:K ((List.replicate a.toNat x).map enc) a.toNat):BV a b bytes zero K:=by
 subst hx;refine ⟨⟨h0,hr.1,by simpa [FI] using hr.2.1,hr.2.2⟩,?_⟩;simpa using h
theorem AP {K:Nat->Prop} (h:K l.length):AM (l.map enc) K:=⟨by simpa using h⟩
theorem FA {len z bytes:Nat} {vs:List AV} {K:List (List AV)->Nat->Prop} (e:α) (he:vs=enc e) (hl:len=l.length) (hz:vs.length=z) (hr:(l.length+1)*bytes<=140737488355328) (af:l.length+1<=9223372036854775807) (h:K ((l++[e]).map enc) (l++[e]).length):BH (l.map enc) len [vs] z bytes K:=by
 subst hl;refine ⟨by simp,by simpa using hz,by simpa [FI] using hr,by simpa using af,?_⟩;rw[zT (by simp)];simpa [he] using h
theorem aD {len z bytes:Nat} {l':List α} {K:List (List AV)->Nat->Prop} (hl:len=l.length) (hz : ∀ x,(enc x).length=z) (hr:(l.length+l'.length)*bytes<=140737488355328) (af:l.length+l'.length<=9223372036854775807) (h:K ((l++l').map enc) (l++l').length):BH (l.map enc) len (l'.map enc) z bytes K:=by
 subst hl;refine ⟨by simp,by simp [hz],by simpa [FI] using hr,by simpa using af,?_⟩;rw[zT (by simp)];simpa using h
theorem SY {z bytes:Nat} {vs:List AV} {K:List (List AV)->Nat->Prop} (e:α) (he:vs=enc e) (hz:vs.length=z) (hb:bytes<=140737488355328) (h:K ([e].map enc) 1):CM [vs] z bytes K :=
 ⟨by simpa using hz,by simpa [FI] using hb,by simp,by simpa [he] using h⟩
theorem SX {z bytes:Nat} {K:List (List AV)->Nat->Prop} (hz : ∀ x,(enc x).length=z) (hr:l.length*bytes<=140737488355328) (af:l.length<=9223372036854775807) (h:K (l.map enc) l.length):CM (l.map enc) z bytes K :=
 ⟨by simp [hz],by simpa [FI] using hr,by simpa using af,by simpa using h⟩
theorem aR {off len:Nat} {K:List (List AV)->Prop} (hl:off+len<=l.length) (h:K (((l.drop off).take len).map enc)):BO (l.map enc) off len K :=
 ⟨by simpa using hl,by rw[<-List.map_drop,<-List.map_take];exact h⟩
theorem ZD : ∀ {e:List AV},GG e=true->NP e=true/\e.map nl=e
 | [],_=>⟨rfl,rfl⟩
 | v::r,h=>by
  have hv:GG r=true:=by cases v<;>simp only[GG]at h<;>first|cases h|exact h
  obtain ⟨h1,h2⟩:=ZD hv;cases v<;>simp only[GG]at h<;>first|cases h|exact ⟨h1,by rw[List.map_cons,h2];rfl⟩
theorem zQ : ∀ {es:List (List AV)},(∀ e∈es,GG e=true)->es.map (λ e=>e.map nl)=es
 | [],_=>rfl
 | e::r,h=>by rw[List.map_cons,(ZD (h e List.mem_cons_self)).2,zQ λ x hx=>h x (List.mem_cons_of_mem _ hx)]
theorem X0 {es:List (List AV)} {off len:Nat} {K:List (List AV)->Prop} (hl:off+len<=es.length) (hz : ∀ e∈es,GG e=true) (h:K ((es.drop off).take len)):AY es off len K :=
 ⟨hl,λ e he=>(ZD (hz e he)).1,by rw[zQ λ e he=>hz e (List.mem_of_mem_drop (List.mem_of_mem_take he))];exact h⟩
theorem CZ {off len:Nat} {K:List (List AV)->Prop} (hz : ∀ x,GG (enc x)=true) (ho:off=0) (hl:len=l.length) (h:K (l.map enc)):AY (l.map enc) off len K:=by
 subst hl ho;refine X0 (by simp) (λ e he => ?_) (by rw[List.drop_zero,zT (by simp)];exact h);obtain ⟨x,_,rfl⟩:=List.mem_map.1 he;exact hz x
theorem I4 {off len:Nat} {K:List (List AV)->Prop} (hz : ∀ x,GG (enc x)=true) (hl:off+len<=l.length) (h:K (((l.drop off).take len).map enc)):AY (l.map enc) off len K:=by
 refine X0 (by simpa using hl) (λ e he => ?_) (by rw[<-List.map_drop,<-List.map_take];exact h);obtain ⟨x,_,rfl⟩:=List.mem_map.1 he;exact hz x
theorem DQ {e:List AV} {K:List (List AV)->Prop} (h:K [e]):BO [e] 0 1 K:=⟨by simp,h⟩
theorem GA {e:List AV} {K:List (List AV)->Prop} (h0:GG e=true) (h:K [e]):AY [e] 0 1 K:=X0 (by simp) (by simpa using h0) h
theorem J9 {e e':List AV} {K:List (List AV)->Prop} (h0:GG e=true) (h1:GG e'=true) (h:K [e,e']):AY [e,e'] 0 2 K:=X0 (by simp) (by simpa using ⟨h0,h1⟩) h
theorem pV {e':List AV} {K:List (List AV)->Prop} (h1:GG e'=true) (h:K [[.sl false []],e']):AY [[.nil],e'] 0 2 K :=
 ⟨by simp,by simpa using ⟨rfl,(ZD h1).1⟩,by simpa [(ZD h1).2,nl] using h⟩
section
variable {β:Type} {z:Nat} {ll:List (List β)} {en:β->List AV}
abbrev EL (z:Nat) (en:β->List AV) (ll:List (List β)):List (Option (Nat × List (List AV))):=ll.map λ r=>some (z,r.map en)
theorem Xc {i:Nat} {K:Option (Nat × List (List AV))->Prop} (hi:i<ll.length) (h : ∀ r,ll[i]? = some r->K (some (z,r.map en))):CQ (EL z en ll) (0+((i:Int)).toNat) K:=by
 have he:ll[i]? = some ll[i]:=zE _;exact ⟨_,by rw[Nat.zero_add,Int.toNat_natCast,List.getElem?_map,he];rfl,h _ he⟩
theorem Xb {i:Int} {K:Option (Nat × List (List AV))->Prop} (hi:0<=i/\i<ll.length) (h : ∀ r,ll[i.toNat]? = some r->K (some (z,r.map en))):CQ (EL z en ll) (0+i.toNat) K:=by
 have hl:i.toNat<ll.length:=by omega
 have he:ll[i.toNat]? = some ll[i.toNat]:=zE _;exact ⟨_,by rw[Nat.zero_add,List.getElem?_map,he];rfl,h _ he⟩
theorem pF {i:Nat} {K:Nat->List (List AV)->Prop} {r:List β} (hr:ll[i]? = some r) (h:K z (r.map en)):CE (EL z en ll) i K :=
 ⟨z,r.map en,by rw[List.getElem?_map,hr];rfl,h⟩
theorem Wy {i:Nat} {K:Nat->List (List AV)->Prop} {r:List β} (hr:ll[i]? = some r) (h:K z (r.map en)):CE (EL z en ll) (0+((i:Int)).toNat) K:=by
 rw[Nat.zero_add,Int.toNat_natCast];exact pF hr h
theorem Wz {i:Int} {K:Nat->List (List AV)->Prop} {r:List β} (hr:ll[i.toNat]? = some r) (h:K z (r.map en)):CE (EL z en ll) (0+i.toNat) K:=by
 rw[Nat.zero_add];exact pF hr h
theorem XM {len bytes:Nat} {r:List β} {K:List (Option (Nat × List (List AV)))->Nat->Prop} (hl:len=ll.length) (hr:(ll.length+1)*bytes<=140737488355328) (af:ll.length+1<=9223372036854775807) (h:K (EL z en (ll++[r])) (ll++[r]).length):BT (EL z en ll) len (some (z,r.map en)) bytes K:=by
 subst hl;exact ⟨by simp,by simpa [FI] using hr,af,by simpa [EL] using h⟩
theorem Mo (q:Bool) : ∀ ll:List (List β),RG q (EL z en ll)=ll.map λ r=>[AV.sl q (r.map en)]
 | []=>rfl
 | r::l=>by simp only[EL,List.map_cons,RG];rw[show RG q (l.map λ r=>some (z,r.map en))=_ from Mo q l]
theorem QQ {q:Bool} {off len:Nat} {K:List (List AV)->Prop} (hz : ∀ x,GG (en x)=true) (ho:off=0) (hl:len=ll.length) (h:K (ll.map λ r=>[AV.sl q (r.map en)])):CP q (EL z en ll) off len K:=by
 refine ⟨ho,by simpa using hl,λ z' es hm e he => ?_,by rw[Mo];exact h⟩;obtain ⟨r,_,hr⟩:=List.mem_map.1 hm;simp only[Option.some.injEq,Prod.mk.injEq]at hr;obtain ⟨rfl,rfl⟩:=hr;obtain ⟨x,_,rfl⟩:=List.mem_map.1 he;exact hz x
end
theorem Ws {len:Nat} {a:Int} {K:Nat->Nat->Prop} (h0:0<=a/\a<=len) (h:K a.toNat len):B0 (some a) none len K:=⟨a.toNat,len,⟨h0.1,rfl⟩,rfl,by omega,h⟩
theorem Wr {len:Nat} {b:Int} {K:Nat->Nat->Prop} (h0:0<=b/\b<=len) (h:K 0 b.toNat):B0 none (some b) len K:=⟨0,b.toNat,rfl,⟨h0.1,h0.2,rfl⟩,by omega,h⟩
theorem gE {len:Nat} {a b:Int} {K:Nat->Nat->Prop} (h0:0<=a/\a<=b/\b<=len) (h:K a.toNat b.toNat):B0 (some a) (some b) len K:=⟨a.toNat,b.toNat,⟨h0.1,rfl⟩,⟨by omega,by omega,rfl⟩,by omega,h⟩
theorem aS {z:Nat} {lo hi:Option Int} {K:List (List AV)->Prop} (hz : ∀ x,(enc x).length=z) (h:B0 lo hi l.length λ a h=>K (((l.take h).drop a).map enc)):CJ z (l.map enc) lo hi K:=by
 refine ⟨by simp [hz],?_⟩;rw[List.length_map];obtain ⟨a,b,h1,h2,h3,h4⟩:=h;refine ⟨a,b,h1,h2,h3,?_⟩;show K _;rw[<-List.map_take,<-List.map_drop];exact h4
theorem LY {z k:Nat} {K:List (List AV)->Prop} (hz : ∀ x,(enc x).length=z) (hk:k<=l.length) (h:K ((l.take k).map enc)):CJ z (l.map enc) none (some (k:Int)) K :=
 aS hz (Wr (by omega) (by simpa using h))
theorem pU {z k:Nat} {K:List (List AV)->Prop} (hz : ∀ x,(enc x).length=z) (hk:k<=l.length) (h:K ((l.drop k).map enc)):CJ z (l.map enc) (some (k:Int)) none K :=
 aS hz (Ws (by omega) (by simpa using h))
theorem AD {f:Nat} {vs:List AV} {K:AV->Prop} {r:AV} (h:Ev L f vs r) (hk:K r):AB L f vs K:=⟨r,h,hk⟩
theorem EE {f:Nat} {vs:List AV} {K:AV->Prop} {p:Prop} [Decidable p] (h:Ev L f vs (.bool (decide p))) (h1:p->K (.bool true)) (h2 : ¬ p->K (.bool false)):AB L f vs K:=by
 refine ⟨_,h,?_⟩;by_cases e:p
 ·rw[decide_eq_true e];exact h1 e
 ·rw[decide_eq_false e];exact h2 e
theorem Wv {f:Nat} {vs:List AV} {K:AV->Prop} {b:Bool} (h:Ev L f vs (.bool b)) (h1:b=true->K (.bool true)) (h2:b=false->K (.bool false)):AB L f vs K:=by
 refine ⟨_,h,?_⟩;cases b
 ·exact h2 rfl
 ·exact h1 rfl
theorem AW {a r:AV} (h:a=r) (hc:AZ r):AH a r:=⟨h,hc⟩
theorem FV {a r:Bool} (h:a=r):AH (.bool a) (.bool r):=⟨by rw[h],by simp [AZ]⟩
theorem T5 {p:Prop} [Decidable p] (h:p):AH (.bool true) (.bool (decide p)):=⟨by simp [h],by simp [AZ]⟩
theorem S0 {p:Prop} [Decidable p] (h : ¬ p):AH (.bool false) (.bool (decide p)):=⟨by simp [h],by simp [AZ]⟩
theorem B5 {k:IntKind} {a b:Int} (h:a=b):AH (.int k a) (.int k b):=⟨by rw[h],by simp [AZ]⟩
theorem S7 (h : ∀ x,BS (enc x)) : ∀ l:List α,EV (l.map enc)
 | []=>by simp [EV]
 | x::r=>by rw[List.map_cons,EV];exact ⟨h x,S7 h r⟩
end
theorem V7 (l:List Int):EV (l.map BW):=S7 (λ_=>by simp [BS,AZ]) l
theorem D8 {α:Type} {L:Lib} {k:List It} {cd:BG} {tm:Tm} {M:Mem} {Q:Tm->Mem->Prop} (m:α->Nat) (P:α->Prop) (vs:α->Tm) (Ms:α->Mem) (ts:List Nat) (τ:List (Nat × Nat)) (a:α)
  (he:LH τ tm M (vs a++w5 ts tm) (Ms a++M)) (hp:P a)
  (step : ∀ a,P a->(∀ a',m a'<m a->P a'->AA L (.lp cd::k) (vs a'++w5 ts tm) (Ms a'++M) Q)->AA L (.code cd :: .lp cd::k) (vs a++w5 ts tm) (Ms a++M) Q):AA L (.lp cd::k) tm M Q :=
 XL (α:=α) (λ x=>m x) (λ x=>P x) (λ x=>vs x) (λ x=>Ms x) ts τ a he hp λ a h ih=>step a h λ a' h1 h2=>ih a' h1 h2
theorem VU {α β:Type} {L:Lib} {k:List It} {cd:BG} {tm:Tm} {M:Mem} {Q:Tm->Mem->Prop} (m:α->β->Nat) (P:α->β->Prop) (vs:α->β->Tm) (Ms:α->β->Mem) (ts:List Nat) (τ:List (Nat × Nat)) (a:α) (b:β)
  (he:LH τ tm M (vs a b++w5 ts tm) (Ms a b++M)) (hp:P a b)
  (step : ∀ a b,P a b->(∀ a' b',m a' b'<m a b->P a' b'->AA L (.lp cd::k) (vs a' b'++w5 ts tm) (Ms a' b'++M) Q)->AA L (.code cd :: .lp cd::k) (vs a b++w5 ts tm) (Ms a b++M) Q):AA L (.lp cd::k) tm M Q :=
 XL (α:=α × β) (λ x=>m x.1 x.2) (λ x=>P x.1 x.2) (λ x=>vs x.1 x.2) (λ x=>Ms x.1 x.2) ts τ (a,b) he hp λ⟨a,b⟩ h ih=>step a b h λ a' b' h1 h2=>ih (a',b') h1 h2
theorem Xj {α β γ:Type} {L:Lib} {k:List It} {cd:BG} {tm:Tm} {M:Mem} {Q:Tm->Mem->Prop} (m:α->β->γ->Nat) (P:α->β->γ->Prop) (vs:α->β->γ->Tm) (Ms:α->β->γ->Mem) (ts:List Nat) (τ:List (Nat × Nat)) (a:α) (b:β) (c:γ)
  (he:LH τ tm M (vs a b c++w5 ts tm) (Ms a b c++M)) (hp:P a b c)
  (step : ∀ a b c,P a b c->(∀ a' b' c',m a' b' c'<m a b c->P a' b' c'->AA L (.lp cd::k) (vs a' b' c'++w5 ts tm) (Ms a' b' c'++M) Q)->AA L (.code cd :: .lp cd::k) (vs a b c++w5 ts tm) (Ms a b c++M) Q):AA L (.lp cd::k) tm M Q :=
 XL (α:=α × β × γ) (λ x=>m x.1 x.2.1 x.2.2) (λ x=>P x.1 x.2.1 x.2.2) (λ x=>vs x.1 x.2.1 x.2.2) (λ x=>Ms x.1 x.2.1 x.2.2) ts τ (a,b,c) he hp λ⟨a,b,c⟩ h ih=>step a b c h λ a' b' c' h1 h2=>ih (a',b',c') h1 h2
theorem gD {α β γ δ:Type} {L:Lib} {k:List It} {cd:BG} {tm:Tm} {M:Mem} {Q:Tm->Mem->Prop} (m:α->β->γ->δ->Nat) (P:α->β->γ->δ->Prop) (vs:α->β->γ->δ->Tm) (Ms:α->β->γ->δ->Mem) (ts:List Nat) (τ:List (Nat × Nat)) (a:α) (b:β) (c:γ) (d:δ)
  (he:LH τ tm M (vs a b c d++w5 ts tm) (Ms a b c d++M)) (hp:P a b c d)
  (step : ∀ a b c d,P a b c d->(∀ a' b' c' d',m a' b' c' d'<m a b c d->P a' b' c' d'->AA L (.lp cd::k) (vs a' b' c' d'++w5 ts tm) (Ms a' b' c' d'++M) Q)->AA L (.code cd :: .lp cd::k) (vs a b c d++w5 ts tm) (Ms a b c d++M) Q):AA L (.lp cd::k) tm M Q :=
 XL (α:=α × β × γ × δ) (λ x=>m x.1 x.2.1 x.2.2.1 x.2.2.2) (λ x=>P x.1 x.2.1 x.2.2.1 x.2.2.2) (λ x=>vs x.1 x.2.1 x.2.2.1 x.2.2.2) (λ x=>Ms x.1 x.2.1 x.2.2.1 x.2.2.2) ts τ (a,b,c,d) he hp λ⟨a,b,c,d⟩ h ih=>step a b c d h λ a' b' c' d' h1 h2=>ih (a',b',c',d') h1 h2
theorem Acc {α β γ δ ε ζ:Type} {L:Lib} {k:List It} {cd:BG} {tm:Tm} {M:Mem} {Q:Tm->Mem->Prop} (m:α->β->γ->δ->ε->ζ->Nat) (P:α->β->γ->δ->ε->ζ->Prop) (vs:α->β->γ->δ->ε->ζ->Tm) (Ms:α->β->γ->δ->ε->ζ->Mem) (ts:List Nat) (τ:List (Nat × Nat)) (a:α) (b:β) (c:γ) (d:δ) (e:ε) (f:ζ)
  (he:LH τ tm M (vs a b c d e f++w5 ts tm) (Ms a b c d e f++M)) (hp:P a b c d e f)
  (step : ∀ a b c d e f,P a b c d e f->(∀ a' b' c' d' e' f',m a' b' c' d' e' f'<m a b c d e f->P a' b' c' d' e' f'->AA L (.lp cd::k) (vs a' b' c' d' e' f'++w5 ts tm) (Ms a' b' c' d' e' f'++M) Q)->AA L (.code cd :: .lp cd::k) (vs a b c d e f++w5 ts tm) (Ms a b c d e f++M) Q):AA L (.lp cd::k) tm M Q :=
 XL (α:=α × β × γ × δ × ε × ζ) (λ x=>m x.1 x.2.1 x.2.2.1 x.2.2.2.1 x.2.2.2.2.1 x.2.2.2.2.2) (λ x=>P x.1 x.2.1 x.2.2.1 x.2.2.2.1 x.2.2.2.2.1 x.2.2.2.2.2) (λ x=>vs x.1 x.2.1 x.2.2.1 x.2.2.2.1 x.2.2.2.2.1 x.2.2.2.2.2) (λ x=>Ms x.1 x.2.1 x.2.2.1 x.2.2.2.1 x.2.2.2.2.1 x.2.2.2.2.2) ts τ (a,b,c,d,e,f) he hp λ⟨a,b,c,d,e,f⟩ h ih=>step a b c d e f h λ a' b' c' d' e' f' h1 h2=>ih (a',b',c',d',e',f') h1 h2
theorem D4 {α:Type} {L:Lib} {k:List It} {cd:BG} {tm:Tm} {M:Mem} {Q:Tm->Mem->Prop} (m:α->Nat) (P:α->Prop) (vs:α->Tm) (Ms:α->Mem) (a:α)
  (hp:P a)
  (step : ∀ a,P a->(∀ a',m a'<m a->P a'->AA L (.lp cd::k) (vs a'++w5 [] tm) (Ms a'++M) Q)->AA L (.code cd :: .lp cd::k) (vs a++w5 [] tm) (Ms a++M) Q)
  (he:LH [] tm M (vs a++w5 [] tm) (Ms a++M):=by (conv=>whnf);exact ⟨rfl,rfl,rfl⟩):AA L (.lp cd::k) tm M Q :=
 D8 m P vs Ms [] [] a he hp step
theorem FU {α β:Type} {L:Lib} {k:List It} {cd:BG} {tm:Tm} {M:Mem} {Q:Tm->Mem->Prop} (m:α->β->Nat) (P:α->β->Prop) (vs:α->β->Tm) (Ms:α->β->Mem) (a:α) (b:β)
  (hp:P a b)
  (step : ∀ a b,P a b->(∀ a' b',m a' b'<m a b->P a' b'->AA L (.lp cd::k) (vs a' b'++w5 [] tm) (Ms a' b'++M) Q)->AA L (.code cd :: .lp cd::k) (vs a b++w5 [] tm) (Ms a b++M) Q)
  (he:LH [] tm M (vs a b++w5 [] tm) (Ms a b++M):=by (conv=>whnf);exact ⟨rfl,rfl,rfl⟩):AA L (.lp cd::k) tm M Q :=
 VU m P vs Ms [] [] a b he hp step
theorem G9 {α β γ:Type} {L:Lib} {k:List It} {cd:BG} {tm:Tm} {M:Mem} {Q:Tm->Mem->Prop} (m:α->β->γ->Nat) (P:α->β->γ->Prop) (vs:α->β->γ->Tm) (Ms:α->β->γ->Mem) (a:α) (b:β) (c:γ)
  (hp:P a b c)
  (step : ∀ a b c,P a b c->(∀ a' b' c',m a' b' c'<m a b c->P a' b' c'->AA L (.lp cd::k) (vs a' b' c'++w5 [] tm) (Ms a' b' c'++M) Q)->AA L (.code cd :: .lp cd::k) (vs a b c++w5 [] tm) (Ms a b c++M) Q)
  (he:LH [] tm M (vs a b c++w5 [] tm) (Ms a b c++M):=by (conv=>whnf);exact ⟨rfl,rfl,rfl⟩):AA L (.lp cd::k) tm M Q :=
 Xj m P vs Ms [] [] a b c he hp step
theorem AE {L:Lib} {Q:Tm->Mem->Prop} {c:BG} {k:List It} {tm:Tm} {M:Mem} (h:fT (sw 0 tm) λ tm=>WT M λ M=>XK L Q 500 (.code c::k) tm M):AA L (.code c::k) tm M Q:=by
 rw[WI,dA]at h;exact oT (gV h)
end Go.c6

namespace Go.c6
variable {L:Lib}
def CW (N:Nat):AU->Bool
 | .t n=>Nat.blt n N
 | .c _=>true
def ZI (N:Nat):EH->Bool
 | .a6 x=>CW N x
 | .y8 _ _=>true
 | .pick c a b=>CW N c&&(CW N a&&CW N b)
 | .bin _ x y=>CW N x&&CW N y
 | .beq _ x y=>CW N x&&CW N y
 | .un _ x=>CW N x
 | .conv _ x=>CW N x
 | .box _ x=>CW N x
 | .alloc _ _=>true
 | .build _ ps=>ps.all λ p=>CW N p.2.2
 | .b7 _ _ ps=>ps.all (CW N)
 | .a5 x _=>CW N x
 | .lq x _ _ _=>CW N x
 | .a8 _ _ x i=>CW N x&&CW N i
 | .ld _ _ x=>CW N x
 | .st _ x v=>CW N x&&CW N v
 | .mk _ _ _ _ l c=>CW N l&&CW N c
 | .cj _ x lo hi=>CW N x&&((lo.all (CW N))&&(hi.all (CW N)))
 | .ext x _=>CW N x
 | .len x=>CW N x
 | .mm _ xs=>xs.all (CW N)
 | .app _ _ _ x y=>CW N x&&CW N y
 | .call _ xs=>xs.all (CW N)
 | .g6 _ xs=>xs.all (CW N)
 | .oy _ x=>CW N x
 | .eo _ x=>CW N x
 | .bad=>true
 | .mf _ _ xs=>xs.all (CW N)
 | .m8 x xs=>CW N x&&xs.all (CW N)
 | .m5 _ xs=>xs.all (CW N)
 | .o5 _ _ xs=>xs.all (CW N)
 | .aq _ _ xs=>xs.all (CW N)
 | .mi _ _ x v=>CW N x&&CW N v
def X1 (N:Nat) (a:AI):Bool:=(a.dst.all λ d=>Nat.blt d N)&&((a.guard.all λ g=>Nat.blt g.1 N)&&ZI N a.op)
def JJ (N:Nat):BG->Bool
 | .skip=>true
 | .ops l _=>l.all (X1 N)
 | .dr c ts _=>JJ N c&&ts.all λ t=>Nat.blt t N
 | .scope c=>JJ N c
 | .seq a b=>JJ N a&&JJ N b
 | .cond c a b=>CW N c&&(JJ N a&&JJ N b)
 | .block _ c=>JJ N c
 | .loop c=>JJ N c
 | .exit _=>true
 | .ret=>true
def TI (N:Nat):It->Bool
 | .code c=>JJ N c
 | .ln ts _=>ts.all λ t=>Nat.blt t N
 | .e8 _=>true
 | .lp c=>JJ N c
structure Gh (N:Nat) (G T T':Tm):Prop where
 lo : ∀ j,j<N->g7 T' j=g7 T j
 hi : ∀ j,N<=j->g7 T' j=g7 G j
variable {N:Nat} {G:Tm}
theorem UE {a b:Nat}:Nat.blt a b=true↔a<b:=by simp [Nat.blt];omega
theorem Gh.ev {st:St} {T':Tm} {o:AJ} (h:Gh N G st.tm T') {x:AU} (hx:CW N x=true):St.ev ⟨T',o⟩ x=st.ev x:=by
 cases x with
 | t n=>exact h.lo n (UE.1 hx)
 | c v=>rfl
theorem U0 {f g:AU->AV} {xs:List AU} (h : ∀ x,CW N x=true->f x=g x) (hx:xs.all (CW N)=true):xs.map f=xs.map g:=by
 apply List.map_congr_left;intro x hm;exact h x (List.all_eq_true.1 hx x hm)
theorem AfZ {C:Cl} {c4:List Nat} {ρ ρ':AU->AV} {own:AJ} (h : ∀ x,CW N x=true->ρ' x=ρ x) : ∀ (op:EH),ZI N op=true->e9 C c4 ρ' own op=e9 C c4 ρ own op:=by
 intro op k9;cases op;case build zero ps =>
  have:(ps.map λ p=>(p.1,p.2.1,ρ' p.2.2))=ps.map λ p=>(p.1,p.2.1,ρ p.2.2):=by
   apply List.map_congr_left;intro p hm;rw[h _ (List.all_eq_true.1 k9 p hm)]
  simp only[e9,this]
 case b7 s b8 ps =>
  have:ps.mapM (λ x=>cellsOf (ρ' x))=ps.mapM (λ x=>cellsOf (ρ x)):=by
   have pn:ps.all (CW N)=true:=k9;clear k9;induction ps with
   | nil=>rfl
   | cons p r ih =>
    simp only[List.all_cons,Bool.and_eq_true]at pn;simp only[List.mapM_cons,h _ pn.1,ih pn.2]
  simp only[e9,this]
 case mm m xs=>simp only[e9,U0 h k9]
 case call f xs=>simp only[e9,U0 h k9]
 case g6 f xs=>simp only[e9,U0 h k9]
 case mf p f xs =>
  have:xs.mapM (λ x=>HZ (ρ' x))=xs.mapM (λ x=>HZ (ρ x)):=by
   have pn:xs.all (CW N)=true:=k9;clear k9;induction xs with
   | nil=>rfl
   | cons p r ih =>
    simp only[List.all_cons,Bool.and_eq_true]at pn;simp only[List.mapM_cons,h _ pn.1,ih pn.2]
  simp only[e9,this]
 case m5 f xs=>simp only[e9,U0 h k9]
 case o5 s f xs=>simp only[e9,U0 h k9]
 case aq s f xs=>simp only[e9,U0 h k9]
 case m8 x xs =>
  simp only[ZI,Bool.and_eq_true]at k9;simp only[e9,U0 h k9.2,h _ k9.1]
 case cj b8 x lo hi =>
  simp only[ZI,Bool.and_eq_true]at k9;obtain ⟨h1,h2,h3⟩:=k9;cases lo<;>cases hi<;>simp only[Option.all_some,Option.all_none]at h2 h3<;>simp only[e9,h _ h1,h _,h2,h3]
 all_goals (simp only[ZI,Bool.and_eq_true]at k9;simp only[e9,h _,k9])
theorem Gh.dst {T T':Tm} (h:Gh N G T T') {d:Nat} (hd:d<N) (v:AV):Gh N G (gv T d v) (gv T' d v):=by
 constructor
 ·intro j hj
  rw[Z9,Z9,h.lo j hj]
 ·intro j hj
  rw[Z9,h.hi j hj,if_neg (by omega)]
theorem Gh.mj {T T':Tm} {o:AJ} (h:Gh N G T T') {d:Option Nat} (hd:(d.all λ d=>Nat.blt d N)=true) (v:AV):((⟨T',o⟩:St).dst d v).own=((⟨T,o⟩:St).dst d v).own/\Gh N G ((⟨T,o⟩:St).dst d v).tm ((⟨T',o⟩:St).dst d v).tm:=by
 cases d with
 | none=>exact ⟨rfl,h⟩
 | some d=>exact ⟨rfl,h.dst (UE.1 hd) v⟩
theorem AkV {C:Cl} {a:AI} (ha:X1 N a=true) {T T':Tm} {o:AJ} (h:Gh N G T T') {s':St} (hs:C1 C a ⟨T',o⟩=some s') : ∃ s,C1 C a ⟨T,o⟩=some s/\s'.own=s.own/\Gh N G s.tm s'.tm:=by
 simp only[X1,Bool.and_eq_true]at ha;obtain ⟨h1,h2,h3⟩:=ha;have hg:GQ ⟨T',o⟩ a.guard=GQ ⟨T,o⟩ a.guard:=by
  cases hgg:a.guard with
  | none=>rfl
  | some g =>
   rw[hgg]at h2;simp only[GQ,h.lo _ (UE.1 h2)]
 have he:=AfZ (C:=C) (c4:=a.c4) (own:=o) (ρ:=St.ev ⟨T,o⟩) (ρ':=St.ev ⟨T',o⟩) (λ x hx=>Gh.ev (st:=⟨T,o⟩) h hx) a.op h3;unfold C1 at hs ⊢;rw[hg,he]at hs;cases Al:GQ ⟨T,o⟩ a.guard with
 | none=>rw[Al]at hs;cases hs
 | some b =>
  rw[Al]at hs;cases b with
  | false =>
   simp only[Option.some.injEq]at hs ⊢;subst hs;exact ⟨_,rfl,h.mj h1 _⟩
  | true =>
   simp only at hs ⊢;cases Tk:e9 C a.c4 (St.ev ⟨T,o⟩) o a.op with
   | none=>rw[Tk]at hs;cases hs
   | some e =>
    rw[Tk]at hs;simp only[Option.map_some,Option.some.injEq]at hs ⊢;subst hs;refine ⟨_,rfl,?_⟩;cases e with
    | val v=>exact h.mj h1 v
    | new s b v=>exact ⟨rfl,(h.mj (o:=o) h1 _).2⟩
    | vm s b v=>exact ⟨rfl,(h.mj (o:=o) h1 _).2⟩
    | bn v o'=>exact ⟨rfl,(h.mj (o:=o) h1 _).2⟩
    | o7 s x=>exact ⟨rfl,(h.mj (o:=o) h1 _).2⟩
    | tp s x v=>exact ⟨rfl,(h.mj (o:=o) h1 _).2⟩
theorem Qp {C:Cl} : ∀ {l:List AI},l.all (X1 N)=true -> ∀ {T T':Tm} {o:AJ},Gh N G T T' -> ∀ {s':St},DI C l ⟨T',o⟩=some s' -> ∃ s,DI C l ⟨T,o⟩=some s/\s'.own=s.own/\Gh N G s.tm s'.tm
 | [],_,T,T',o,h,s',hs=>by
  simp only[DI,Option.some.injEq]at hs;subst hs;exact ⟨_,rfl,rfl,h⟩
 | a::l,ha,T,T',o,h,s',hs=>by
  simp only[List.all_cons,Bool.and_eq_true]at ha;simp only[DI]at hs;cases h1:C1 C a ⟨T',o⟩ with
  | none=>rw[h1]at hs;cases hs
  | some s1 =>
   rw[h1]at hs;obtain ⟨s2,e1,e2,e3⟩:=AkV ha.1 h h1;obtain ⟨T1,o1⟩:=s1;obtain ⟨T2,o2⟩:=s2;simp only at e2 e3;subst e2;obtain ⟨s3,f1,f2,f3⟩:=Qp ha.2 e3 hs;exact ⟨s3,by simp only[DI,e1,f1],f2,f3⟩
theorem YV {id:Nat} : ∀ {k k':List It},k.all (TI N)=true->GP id k=some k'->k'.all (TI N)=true
 | [],_,_,h=>by simp [GP]at h
 | it::k,k',hk,h=>by
  simp only[List.all_cons,Bool.and_eq_true]at hk;cases it with
  | e8 i =>
   simp only[GP]at h;split at h
   ·cases h;exact hk.2
   ·exact YV hk.2 h
  | code c=>simp only[GP]at h;exact YV hk.2 h
  | ln a b=>simp only[GP]at h;exact YV hk.2 h
  | lp c=>simp only[GP]at h;exact YV hk.2 h
theorem J0 {C:Cl} : ∀ (n:Nat) {k:List It},k.all (TI N)=true -> ∀ {T T':Tm} {o:AJ},Gh N G T T' -> ∀ {s':St},run C n k ⟨T',o⟩=some s' -> ∃ s,run C n k ⟨T,o⟩=some s/\s'.own=s.own/\Gh N G s.tm s'.tm
 | 0,k,_,T,T',o,_,s',hs=>by simp [run]at hs
 | n+1,[],_,T,T',o,h,s',hs=>by
  simp only[run,Option.some.injEq]at hs ⊢;subst hs;exact ⟨_,rfl,rfl,h⟩
 | n+1,.e8 _::k,hk,T,T',o,h,s',hs=>by
  simp only[List.all_cons,Bool.and_eq_true]at hk;simp only[run]at hs ⊢;exact J0 n hk.2 h hs
 | n+1,.ln ts ss::k,hk,T,T',o,h,s',hs=>by
  simp only[List.all_cons,Bool.and_eq_true]at hk;simp only[run]at hs ⊢;refine J0 n hk.2 ⟨λ j hj => ?_,λ j hj => ?_⟩ hs
  ·rw[XD,XD,h.lo j hj]
  ·rw[XD,h.hi j hj,if_neg]
   intro hc;have:=List.all_eq_true.1 hk.1 j (by simpa using hc)
   have:=UE.1 this
   omega
 | n+1,.lp c::k,hk,T,T',o,h,s',hs=>by
  simp only[run]at hs ⊢;have fu:=hk;simp only[List.all_cons,Bool.and_eq_true]at hk;exact J0 n (by simp only[List.all_cons,Bool.and_eq_true];exact ⟨hk.1,hk.1,hk.2⟩) h hs
 | n+1,.code c::k,hk,T,T',o,h,s',hs=>by
  simp only[List.all_cons,Bool.and_eq_true]at hk;obtain ⟨hc,hk⟩:=hk;cases c with
  | skip=>simp only[run]at hs ⊢;exact J0 n hk h hs
  | ops l d =>
   simp only[run]at hs ⊢;cases h1:DI C l ⟨T',o⟩ with
   | none=>rw[h1]at hs;cases hs
   | some s1 =>
    rw[h1]at hs;obtain ⟨s2,e1,e2,e3⟩:=Qp (show l.all (X1 N)=true from hc) h h1;obtain ⟨T1,o1⟩:=s1;obtain ⟨T2,o2⟩:=s2;simp only at e2 e3;subst e2;rw[e1];exact J0 n hk e3 hs
  | dr c ts ss =>
   simp only[run]at hs ⊢;simp only[TI,JJ,Bool.and_eq_true]at hc;exact J0 n (by simp only[List.all_cons,Bool.and_eq_true];exact ⟨hc.1,hc.2,hk⟩) h hs
  | scope c =>
   simp only[run]at hs ⊢;exact J0 n (by simp only[List.all_cons,Bool.and_eq_true];exact ⟨hc,hk⟩) h hs
  | seq a b =>
   simp only[run]at hs ⊢;simp only[TI,JJ,Bool.and_eq_true]at hc;exact J0 n (by simp only[List.all_cons,Bool.and_eq_true];exact ⟨hc.1,hc.2,hk⟩) h hs
  | cond x a b =>
   simp only[TI,JJ,Bool.and_eq_true]at hc;simp only[run,Gh.ev (st:=⟨T,o⟩) h hc.1]at hs ⊢;cases hx:St.ev ⟨T,o⟩ x<;>rw[hx]at hs<;>try (simp at hs;done)
   rename_i q;cases q
   ·exact J0 n (by simp only[List.all_cons,Bool.and_eq_true];exact ⟨hc.2.2,hk⟩) h hs
   ·exact J0 n (by simp only[List.all_cons,Bool.and_eq_true];exact ⟨hc.2.1,hk⟩) h hs
  | block id c =>
   simp only[run]at hs ⊢;exact J0 n (by simp only[List.all_cons,Bool.and_eq_true];exact ⟨hc,rfl,hk⟩) h hs
  | loop c =>
   simp only[run]at hs ⊢;exact J0 n (by simp only[List.all_cons,Bool.and_eq_true];exact ⟨hc,hc,hk⟩) h hs
  | exit id =>
   simp only[run]at hs ⊢;cases he:GP id k with
   | none=>rw[he]at hs;cases hs
   | some k' =>
    rw[he]at hs;exact J0 n (YV hk he) h hs
  | ret =>
   simp only[run,Option.some.injEq]at hs ⊢;subst hs;exact ⟨_,rfl,rfl,h⟩
def HQ (N:Nat):Tm->Tm
 | []=>[]
 | (i,v)::r=>(N+i,v)::HQ N r
def gh (N:Nat):Tm->Tm
 | []=>[]
 | (i,v)::r=>bif Nat.ble N i then (Nat.sub i N,v)::gh N r else gh N r
theorem oJ (N j:Nat) : ∀ T:Tm,g7 (HQ N T) (N+j)=g7 T j
 | []=>rfl
 | (i,v)::r=>by
  have ih:=oJ N j r;simp only[HQ,g7,ih];by_cases h:j=i
  ·simp [h]
  ·rw[if_neg h,if_neg (by omega)]
theorem oK {N j:Nat} (hj:j<N) : ∀ T:Tm,g7 (HQ N T) j = .any
 | []=>rfl
 | (i,v)::r=>by
  simp only[HQ,g7,oK hj r];rw[if_neg (by omega)]
theorem oH (N j:Nat) : ∀ T:Tm,g7 (gh N T) j=g7 T (N+j)
 | []=>rfl
 | (i,v)::r=>by
  have ih:=oH N j r;simp only[gh];cases h:Nat.ble N i
  ·have h1 : ¬ N<=i:=λ e=>by rw[Nat.ble_eq_true_of_le e]at h;cases h
   simp only[cond,g7,ih];rw[if_neg (by omega)]
  ·have h1:=Nat.le_of_ble_eq_true h
   simp only[cond,g7,ih];by_cases h2:j=i-N
   ·rw[if_pos (show j=Nat.sub i N from h2),if_pos (by omega)]
   ·rw[if_neg (show ¬ j=Nat.sub i N from h2),if_neg (by omega)]
def MX (f:AV->AV):Tm->Tm
 | []=>[]
 | (i,v)::r=>(i,f v)::MX f r
theorem LD {f:AV->AV} (hf:f .any = .any) (j:Nat) : ∀ T:Tm,g7 (MX f T) j=f (g7 T j)
 | []=>hf.symm
 | (i,v)::r=>by
  simp only[MX,g7,LD hf j r];by_cases h:j=i<;>simp [h]
theorem lE (f:AV->AV) : ∀ (i:Nat) (vs:List AV),CR i (vs.map f)=MX f (CR i vs)
 | _,[]=>rfl
 | i,v::r=>by simp only[List.map_cons,CR,MX,lE f (i+1) r]
theorem Z7 (j:Nat) (b:Tm) : ∀ a:Tm,((a.any λ p=>p.1 == j)=true/\g7 (a++b) j=g7 a j)\/((a.any λ p=>p.1 == j)=false/\g7 (a++b) j=g7 b j)
 | []=>Or.inr ⟨rfl,rfl⟩
 | (i,v)::r=>by
  by_cases h:j=i
  ·subst h
   exact Or.inl (by simp [g7])
  ·have h' : ¬ i=j:=λ e=>h e.symm
   rcases Z7 j b r with ⟨h1,h2⟩|⟨h1,h2⟩
   ·exact Or.inl ⟨by rw[List.any_cons,h1,Bool.or_true],by simp only[List.cons_append,g7,if_neg h,h2]⟩
   ·exact Or.inr ⟨by rw[List.any_cons,h1,Bool.or_false];simpa using h',by simp only[List.cons_append,g7,if_neg h,h2]⟩
theorem lD (j:Nat) : ∀ (i:Nat) (vs:List AV),((CR i vs).any λ p=>p.1 == j)=true->j<i+vs.length
 | _,[],h=>by simp [CR]at h
 | i,v::r,h=>by
  simp only[CR,List.any_cons,Bool.or_eq_true,beq_iff_eq]at h;rcases h with h|h
  ·simp;omega
  ·have:=lD j (i+1) r h
   simp;omega
theorem oI (j:Nat) : ∀ (i:Nat) (vs:List AV),((CR i vs).any λ p=>p.1 == j)=false->g7 (CR i vs) j = .any
 | _,[],_=>rfl
 | i,v::r,h=>by
  simp only[CR,List.any_cons,Bool.or_eq_false_iff,beq_eq_false_iff_ne]at h;simp only[CR,g7];rw[if_neg λ e=>h.1 e.symm,oI j (i+1) r h.2]
theorem LV (σ:GN):BC σ .any = .any:=rfl
def TP (tm:Tm):List KP->Option (List AV)
 | []=>some []
 | .tmp t::r=>match JZ (tg tm t),TP tm r with
  | some v,some vs=>some (v::vs)
  | _,_=>none
 | .cell _ _ _::_=>none
def ZQ (N:Nat):List KP->Bool
 | []=>true
 | .tmp t::r=>Nat.blt t N&&ZQ N r
 | .cell _ _ _::_=>false
def pS (N:Nat) (fn:AFn) (tm:Tm) (K:AV->Mem->Prop) (z7:Tm) (M':Mem):Prop:=gh N z7=tm /\ ∃ rs,TP z7 fn.res=some rs/\K (I9 rs) M'
theorem Aj8 {σ:GN} {v u:AV} (h:JZ v=some u):u=v/\BC σ v=BM σ v/\JZ (BC σ v)=some (BC σ v):=by
 cases v<;>simp [JZ]at h<;>subst h<;>exact ⟨rfl,rfl,rfl⟩
theorem mU {σ:GN} {z7:Tm} {M:Mem} {s s':St} (hr:RX σ z7 M s') (ma : ∀ j,j<N->g7 s'.tm j=g7 s.tm j) : ∀ {res:List KP} {rs:List AV},ZQ N res=true->TP z7 res=some rs->res.mapM (F9 s)=some (rs.map (BM σ)) /\ ∀ v∈rs,BC σ v=BM σ v
 | [],rs,_,h=>by
  simp only[TP,Option.some.injEq]at h;subst h;exact ⟨rfl,by simp⟩
 | .cell _ _ _::_,_,_,h=>by simp [TP]at h
 | .tmp t::r,rs,hl,h=>by
  simp only[ZQ,Bool.and_eq_true]at hl;simp only[TP]at h;cases h1:JZ (tg z7 t) with
  | none=>rw[h1]at h;simp at h
  | some v =>
   cases h2:TP z7 r with
   | none=>rw[h1,h2]at h;simp at h
   | some vs =>
    rw[h1,h2]at h;simp only[Option.some.injEq]at h;subst h;obtain ⟨i1,i2⟩:=mU hr ma hl.2 h2;obtain ⟨rfl,j2,j3⟩:=Aj8 (σ:=σ) h1;have:g7 s.tm t=BC σ (tg z7 t):=by
     rcases hr.tm t with e|e
     ·rw[e]at h1;cases h1
     ·rw[<-ma t (UE.1 hl.1),e]
    refine ⟨?_,?_⟩
    ·rw[j2]at j3 this
     simp only[List.mapM_cons,F9,this,j3,i1,List.map_cons];rfl
    ·intro v hv
     simp only[List.mem_cons]at hv;rcases hv with rfl|hv
     ·exact j2
     ·exact i2 v hv
theorem Om {σ:GN} {rs:List AV} (h : ∀ v∈rs,BC σ v=BM σ v):I9 (rs.map (BM σ))=BC σ (I9 rs):=by
 match rs,h with
 | [],_=>rfl
 | [v],h=>exact (h v (by simp)).symm
 | _::_::_,_=>rfl
theorem HR {f:Nat} {fn:AFn} {vs:List AV} {tm:Tm} {M:Mem} {K:AV->Mem->Prop} (N:Nat) (hL:L f=some fn) (hp:Nat.beq vs.length fn.ae=true) (hN:(Nat.ble fn.ae N&&(JJ N fn.body&&ZQ N fn.res))=true)
  (h:AA L [.code fn.body] (CR 0 vs++HQ N tm) M (pS N fn tm K)):A5 L f vs tm M K:=by
 intro σ own hs;simp only[Bool.and_eq_true]at hN;obtain ⟨n1,n2,n3⟩:=hN;have n1:=Nat.le_of_ble_eq_true n1;have hp:vs.length=fn.ae:=Nat.eq_of_beq_eq_true hp;have Ec:RX σ (CR 0 vs++HQ N tm) M ⟨MX (BC σ) (CR 0 vs++HQ N tm),own⟩:=⟨λ j=>Or.inr (by rw[LC];exact LD (LV σ) j _),hs⟩;obtain ⟨n,c,s',hr,σ',z7,M',hR,hg,rs,Eb,hk⟩:=h σ _ Ec;have Jx:Gh N (MX (BC σ) (HQ N tm)) (CR 0 (vs.map (BC σ))) (MX (BC σ) (CR 0 vs++HQ N tm)):=by
  constructor
  ·intro j hj
   rw[lE,LD (LV σ),LD (LV σ)];rcases Z7 j (HQ N tm) (CR 0 vs) with ⟨_,e⟩|⟨hn,e⟩
   ·rw[e]
   ·rw[e,oK hj,oI j 0 vs hn]
  ·intro j hj
   rw[LD (LV σ),LD (LV σ)];rcases Z7 j (HQ N tm) (CR 0 vs) with ⟨hn,e⟩|⟨_,e⟩
   ·have:=lD j 0 vs hn
    omega
   ·rw[e]
 obtain ⟨s,r1,r2,r3⟩:=J0 n (by simp [TI,n2]) Jx hr;obtain ⟨i1,i2⟩:=mU (s:=s) hR r3.lo n3 Eb;refine ⟨I9 rs,s.own,σ',M',HS.intro hL (by simpa using hp) ⟨n,c,s,r1,?_,rfl⟩,?_,?_,hk⟩
 ·rw[i1,Option.map_some,Om i2]
 ·rw[<-r2];exact hR.sat
 ·intro j
  have e1:tg tm j=tg z7 (N+j):=by rw[LC,LC,<-hg,oH]
  rcases hR.tm (N+j) with e|e
  ·rw[e1,e];rfl
  ·rw[e1,<-e,r3.hi (N+j) (by omega),LD (LV σ),oJ,<-LC,e1]
theorem KA {α:Type} {enc:α->List AV} {l:List α} {i:Nat} {vs:List AV} {K:List (List AV)->Prop} (n:Nat) (e:α) (hn:i=n) (he:vs=enc e) (hz : ∀ x,(enc x).length=vs.length) (hi:n<l.length) (h:K ((l.set n e).map enc)):A6 (l.map enc) i 0 vs K:=by
 subst hn;exact Zt e he hz hi h
theorem H5 {x:Int} {len:Nat} {K:Nat->Nat->Prop} (h:Nat) (hx:x=h) (hl:h<=len) (hk:K 0 h):B0 none (some x) len K:=⟨0,h,rfl,⟨by omega,by omega,by omega⟩,by omega,hk⟩
theorem Wq {x:Int} {len:Nat} {K:Nat->Nat->Prop} (a:Nat) (hx:x=a) (hl:a<=len) (hk:K a len):B0 (some x) none len K:=⟨a,len,⟨by omega,by omega⟩,rfl,by omega,hk⟩
end Go.c6

namespace Go.c6
section
variable {K:AV->Prop} {a b:Nat} {k':IntKind}
theorem wrap_u32 (n:Nat):IntKind.u32.wrap (n:Int)=((n%4294967296:Nat):Int):=by rw[IntKind.wrap_u32];omega
theorem AlM (n:Nat):IntKind.u64.wrap (n:Int)=((n%18446744073709551616:Nat):Int):=by
 simp [IntKind.wrap,IntKind.bits,IntKind.signed]
theorem HB (h:a+b<=18446744073709551615) (hk:K (.int .u64 ((a+b:Nat):Int))):AC .add .u64 (a:Int) .u64 (b:Int) K :=
 ⟨_,by simp only[C4,if_true];rw[IntWalk.u64_in _ (by omega)],by simpa using hk⟩
theorem J8 (h:b<=a) (h2:a<=18446744073709551615) (hk:K (.int .u64 ((a-b:Nat):Int))):AC .sub .u64 (a:Int) .u64 (b:Int) K :=
 ⟨_,by simp only[C4,if_true];rw[IntWalk.u64_in _ (by omega)],by rw[show (a:Int)-b=((a-b:Nat):Int) by omega];exact hk⟩
theorem aO (h:b<=18446744073709551616) (hk:K (.int .u64 ((E9 a b:Nat):Int))):AC .sub .u64 (a:Int) .u64 (b:Int) K :=
 aI (v := .int .u64 (IntKind.u64.wrap ((a:Int)-b))) (by simp only[C4,if_true]) (by
  have e:IntKind.u64.wrap ((a:Int)-b)=((E9 a b:Nat):Int):=by
   rw[VQ];simp only[IntKind.wrap,IntKind.bits,IntKind.signed];simp;omega
  rw[e];exact hk)
theorem RS (h:a*b<=18446744073709551615) (hk:K (.int .u64 ((a*b:Nat):Int))):AC .mul .u64 (a:Int) .u64 (b:Int) K :=
 ⟨_,by simp only[C4,if_true];rw[<-Int.natCast_mul,IntWalk.u64_in _ (by omega)],hk⟩
theorem aL (h:0<b) (h2:a<=18446744073709551615) (hk:K (.int .u64 ((a/b:Nat):Int))):AC .quo .u64 (a:Int) .u64 (b:Int) K:=by
 refine ⟨_,by simp only[C4];rw[if_pos ⟨trivial,by omega⟩],?_⟩;rw[IntWalk.u64_quo _ _ ⟨by omega,by omega,by omega⟩,<-Int.natCast_ediv];exact hk
theorem XV (h:0<b) (hk:K (.int .u64 ((a%b:Nat):Int))):AC .rem .u64 (a:Int) .u64 (b:Int) K:=by
 refine ⟨_,by simp only[C4];rw[if_pos ⟨trivial,by omega⟩],?_⟩;rw[IntWalk.rem_in _ _ (by omega),<-Int.natCast_emod];exact hk
theorem AkD {k:IntKind} {n:Nat} (hn:n<=k.bits):C4 .shl k (a:Int) k' (n:Int)=some (.int k (k.wrap ((a*2^n:Nat):Int))):=by
 simp only[C4];rw[if_neg (by omega),Int.toNat_natCast,Nat.min_eq_left hn];simp
theorem AkG {k:IntKind} {n:Nat} (hn:n<=k.bits):C4 .shr k (a:Int) k' (n:Int)=some (.int k ((a/2^n:Nat):Int)):=by
 simp only[C4];rw[if_neg (by omega),Int.toNat_natCast,Nat.min_eq_left hn,Int.fdiv_eq_ediv_of_nonneg _ (Int.le_of_lt (Int.pow_pos (by omega)))];simp
theorem gP {k:IntKind} {n:Nat} (hn:n<=k.bits) (hk:K (.int k (k.wrap ((a*2^n:Nat):Int)))):AC .shl k (a:Int) k' (n:Int) K:=⟨_,AkD hn,hk⟩
theorem RU {k:IntKind} {n:Nat} (hn:n<=k.bits) (hk:K (.int k ((a/2^n:Nat):Int))):AC .shr k (a:Int) k' (n:Int) K:=⟨_,AkG hn,hk⟩
theorem QO (h:a<=4294967295) (hk:K (.int .u64 ((a*4294967296:Nat):Int))):AC .shl .u64 (a:Int) k' 32 K:=by
 refine gP (n:=32) (by decide) ?_;rw[AlM,show a*2^32%18446744073709551616=a*4294967296 by omega];exact hk
theorem GL (hk:K (.int .u64 ((a/4294967296:Nat):Int))):AC .shr .u64 (a:Int) k' 32 K:=RU (n:=32) (by decide) hk
theorem aM (hk:K (.int .u64 ((a/9223372036854775808:Nat):Int))):AC .shr .u64 (a:Int) k' 63 K:=RU (n:=63) (by decide) hk
theorem Xi (hk:K (.int .u64 ((a/4:Nat):Int))):AC .shr .u64 (a:Int) k' 2 K:=RU (n:=2) (by decide) hk
theorem Xh (hk:K (.int .u32 ((a/65536:Nat):Int))):AC .shr .u32 (a:Int) k' 16 K:=RU (n:=16) (by decide) hk
theorem Vx (hk:K (.int .u32 ((a/256:Nat):Int))):AC .shr .u32 (a:Int) k' 8 K:=RU (n:=8) (by decide) hk
theorem Xg (hk:K (.int .u32 ((a/2:Nat):Int))):AC .shr .u32 (a:Int) k' 1 K:=RU (n:=1) (by decide) hk
theorem mI (w n:Nat):(BitVec.ofInt w (n:Int)).toNat=n%2^w:=by rw[BitVec.toNat_ofInt];omega
theorem AjA {n x y:Nat} (hx:x%2^n=0) (hy:y<2^n):x ||| y=x+y:=by
 have e:x=2^n*(x/2^n):=by have:=Nat.mod_add_div x (2^n);omega
 rw[e,<-Nat.two_pow_add_eq_or_of_lt hy]
theorem gO {k:IntKind} (n:Nat) (hx:a%2^n=0) (hy:b<2^n) (h:a+b<2^k.bits) (hw:k.wrap ((a+b:Nat):Int)=((a+b:Nat):Int)) (hk:K (.int k ((a+b:Nat):Int))):AC .or k (a:Int) k (b:Int) K:=by
 refine aI (v := .int k (k.wrap (BitVec.ofInt k.bits (a:Int) ||| BitVec.ofInt k.bits (b:Int)).toNat)) (by simp only[C4,if_true]) ?_;rw[BitVec.toNat_or,mI,mI,Nat.mod_eq_of_lt (by omega),Nat.mod_eq_of_lt (by omega),AjA hx hy,hw];exact hk
theorem RT (h:a%4294967296=0/\b<4294967296/\a+b<=18446744073709551615) (hk:K (.int .u64 ((a+b:Nat):Int))):AC .or .u64 (a:Int) .u64 (b:Int) K :=
 gO 32 h.1 h.2.1 (show a+b<18446744073709551616 by omega) (IntWalk.u64_in _ (by omega)) hk
theorem pM (h:a<=18446744073709551615) (hk:K (.int .u64 ((a%4294967296:Nat):Int))):AC .and .u64 (a:Int) .u64 4294967295 K:=by
 refine aI (v := .int .u64 (IntKind.u64.wrap (BitVec.ofInt IntKind.u64.bits (a:Int) &&& BitVec.ofInt IntKind.u64.bits 4294967295).toNat)) (by simp only[C4,if_true]) ?_;rw[BitVec.toNat_and,mI,show (BitVec.ofInt IntKind.u64.bits 4294967295).toNat=2^32-1 by decide,Nat.and_two_pow_sub_one_eq_mod,show a%2^IntKind.u64.bits=a from Nat.mod_eq_of_lt (show a<18446744073709551616 by omega),IntWalk.u64_in _ (by omega)];exact hk
theorem pL (hk:K (.int .u32 (((a+b)%4294967296:Nat):Int))):AC .add .u32 (a:Int) .u32 (b:Int) K :=
 aI (v := .int .u32 (IntKind.u32.wrap ((a:Int)+b))) (by simp only[C4,if_true]) (by rw[<-Int.natCast_add,wrap_u32];exact hk)
end
section
variable {K:Int->Prop} {n:Nat}
theorem oZ (h:n<=18446744073709551615) (hk:K (n:Int)):A0 .u64 (n:Int) K:=XQ (IntWalk.u64_in _ (by omega)) hk
theorem E2 (h:n<=4294967295) (hk:K (n:Int)):A0 .u32 (n:Int) K:=XQ (IntWalk.u32_in _ (by omega)) hk
theorem G3 (hk:K ((n%4294967296:Nat):Int)):A0 .u32 (n:Int) K:=⟨by rw[wrap_u32];exact hk⟩
theorem Ww (h:n<=255) (hk:K (n:Int)):A0 .u8 (n:Int) K:=XQ (IntWalk.u8_in _ (by omega)) hk
end
theorem aU {tb:List Nat} {n v:Nat} {K:Nat->Prop} (hv:tb[n]? = some v) (hk:K v):UB tb (n:Int) K:=⟨by omega,v,by rw[Int.toNat_natCast];exact hv,hk⟩
abbrev AL (n:Nat):List AV:=[.int .u32 (n:Int)]
theorem C2 (l:List Nat):EV (l.map AL):=S7 (λ_=>by simp [BS,AZ]) l
section
variable {l:List Nat} {K:List AV->Prop}
theorem aQ {n:Nat} (hD:A1 l) (hn:n<l.length) (h : ∀ e,l[n]? = some e->e<4294967296->K (AL e)):AR (l.map AL) (n:Int) 1 K :=
 IJ hn (λ_=>rfl) λ e he=>h e he (hD.at he)
theorem S2 {a:Int} (hD:A1 l) (hn:0<=a/\a<l.length) (h : ∀ e,l[a.toNat]? = some e->e<4294967296->K (AL e)):AR (l.map AL) a 1 K :=
 XW hn (λ_=>rfl) λ e he=>h e he (hD.at he)
theorem pI {i:Nat} (hD:A1 l) (hi:i<l.length) (h : ∀ e,l[i]? = some e->e<4294967296->K (AL e)):BA (l.map AL) (0+((i:Int)).toNat) 0 1 K :=
 T9 (f:=AL) hi (λ_=>rfl) λ e he=>h e he (hD.at he)
theorem T8 {i:Int} (hD:A1 l) (hi:0<=i/\i<l.length) (h : ∀ e,l[i.toNat]? = some e->e<4294967296->K (AL e)):BA (l.map AL) (0+i.toNat) 0 1 K :=
 gL (f:=AL) hi (λ_=>rfl) λ e he=>h e he (hD.at he)
theorem GC {i v:Nat} {KK:List (List AV)->Prop} (hi:i<l.length) (h:KK ((l.set i v).map AL)):A6 (l.map AL) (0+((i:Int)).toNat) 0 [.int .u32 (v:Int)] KK:=KB (enc:=AL) v rfl (λ_=>rfl) hi h
theorem aT {i v:Nat} {KK:List (List AV)->Prop} (n:Nat) (hn:i=n) (hi:n<l.length) (h:KK ((l.set n v).map AL)):A6 (l.map AL) i 0 [.int .u32 (v:Int)] KK:=KA (enc:=AL) n v hn rfl (λ_=>rfl) hi h
end
end Go.c6
namespace Go.c6
variable {L:Lib}
theorem Ev.xE {f:Nat} {fn:AFn} {vs:List AV} {P:AV->Prop} (hL:L f=some fn) (hp:Nat.beq vs.length fn.ae=true) (hd:LL vs=true) (h:AA L [.code fn.body] (CR 0 vs) [] (λ tm M => ∃ r,RW fn r tm M/\P r)) (hs:fn.ng=false:=by rfl) : ∃ r,Ev L f vs r/\P r:=by
 obtain ⟨n,c,j8,hr,σ,tm,M,hR,r,hq,hP⟩:=h (λ_ _=>(0,0)) ⟨CR 0 vs,AJ.emp⟩ ⟨λ j=>Or.inr (by rw[LC];exact YD hd j),⟨(λ_ _ _ e=>by cases e),(λ_ _ _ e=>by simp [c5,c9]at e),(λ_ _ _ e=>by simp [c5,c9]at e),(λ_ _ _ _ _ _ e=>by simp [c5,c9]at e),(λ_ _ _ e=>by simp [c5,c9]at e)⟩⟩;exact ⟨r,Ev.fwd hL (BJ.1 hp) ⟨n,c,j8,hr,pT hR hq⟩ hs,hP⟩
def W2:EH->Bool
 | .y8 .. | .box .. | .alloc .. | .b7 .. | .st .. | .mk .. | .app .. | .g6 .. | .m8 .. | .mi .. | .o5 .. | .aq .. => false
 | _=>true
def JK:BG->Bool
 | .skip=>true
 | .ops l _=>l.all λ a=>W2 a.op
 | .dr c _ ss=>JK c&&ss.isEmpty
 | .scope c=>JK c
 | .seq a b=>JK a&&JK b
 | .cond _ a b=>JK a&&JK b
 | .block _ c=>JK c
 | .loop c=>JK c
 | .exit _=>true
 | .ret=>true
def SD:It->Bool
 | .code c=>JK c
 | .ln _ ss=>ss.isEmpty
 | .e8 _=>true
 | .lp c=>JK c
theorem Af2 {C:Cl} {c4:List Nat} {ρ:AU->AV} {own:AJ} {op:EH} {E:CI} (ho:W2 op=true) (h:e9 C c4 ρ own op=some E) : ∃ v,E = .val v:=by
 cases op<;>first|(simp [W2]at ho;done)|skip
 all_goals simp only[e9]at h
 all_goals
  first
   | (simp only[Option.some.injEq]at h;exact ⟨_,h.symm⟩)
   | (simp only[Option.map_eq_some_iff]at h;obtain ⟨_,_,rfl⟩:=h;exact ⟨_,rfl⟩)
   | skip
 all_goals (repeat' split at h)
 all_goals
  first
   | (cases h;done)
   | (simp only[Option.some.injEq]at h;exact ⟨_,h.symm⟩)
   | (simp only[Option.map_eq_some_iff]at h;obtain ⟨_,_,rfl⟩:=h;exact ⟨_,rfl⟩)
theorem AkX {C:Cl} {a:AI} (ho:W2 a.op=true) {s s':St} (h:C1 C a s=some s'):s'.own=s.own:=by
 unfold C1 at h;split at h
 ·cases he:e9 C a.c4 s.ev s.own a.op with
  | none=>rw[he]at h;cases h
  | some E =>
   rw[he]at h;obtain ⟨v,rfl⟩:=Af2 ho he;simp only[Option.map_some,Option.some.injEq]at h;subst h;simp only[St.app];cases a.dst<;>rfl
 ·simp only[Option.some.injEq]at h
  subst h;cases a.dst<;>rfl
 ·cases h
theorem Qq {C:Cl} : ∀ {l:List AI},(l.all λ a=>W2 a.op)=true -> ∀ {s s':St},DI C l s=some s'->s'.own=s.own
 | [],_,s,s',h=>by simp only[DI,Option.some.injEq]at h;rw[h]
 | a::l,ho,s,s',h=>by
  simp only[List.all_cons,Bool.and_eq_true]at ho;simp only[DI]at h;cases h1:C1 C a s with
  | none=>rw[h1]at h;cases h
  | some s1 =>
   rw[h1]at h;rw[Qq ho.2 h,AkX ho.1 h1]
theorem YW {id:Nat} : ∀ {k k':List It},k.all SD=true->GP id k=some k'->k'.all SD=true
 | [],_,_,h=>by simp [GP]at h
 | it::k,k',hk,h=>by
  simp only[List.all_cons,Bool.and_eq_true]at hk;cases it with
  | e8 i =>
   simp only[GP]at h;split at h
   ·cases h;exact hk.2
   ·exact YW hk.2 h
  | code c=>simp only[GP]at h;exact YW hk.2 h
  | ln a b=>simp only[GP]at h;exact YW hk.2 h
  | lp c=>simp only[GP]at h;exact YW hk.2 h
theorem J1 {C:Cl} : ∀ (n:Nat) {k:List It},k.all SD=true -> ∀ {s s':St},run C n k s=some s'->s'.own=s.own
 | 0,k,_,s,s',h=>by simp [run]at h
 | n+1,[],_,s,s',h=>by
  simp only[run,Option.some.injEq]at h;rw[h]
 | n+1,it::k,hk,s,s',h=>by
  have fu:=hk;simp only[List.all_cons,Bool.and_eq_true]at hk;obtain ⟨hi,hk⟩:=hk;cases it with
  | e8 _=>simp only[run]at h;exact J1 n hk h
  | ln ts ss =>
   have:ss=[]:=by simpa [SD] using hi
   subst this;simp only[run]at h;rw[J1 n hk h];rfl
  | lp c=>simp only[run]at h;exact J1 n (by simp only[List.all_cons,Bool.and_eq_true];exact ⟨hi,hi,hk⟩) h
  | code c =>
   cases c with
   | skip=>simp only[run]at h;exact J1 n hk h
   | ops l d =>
    simp only[run]at h;cases h1:DI C l s with
    | none=>rw[h1]at h;cases h
    | some s1 =>
     rw[h1]at h;rw[J1 n hk h,Qq (show (l.all λ a=>W2 a.op)=true from hi) h1]
   | dr c ts ss =>
    simp only[run]at h;simp only[SD,JK,Bool.and_eq_true]at hi;exact J1 n (by simp only[List.all_cons,Bool.and_eq_true];exact ⟨hi.1,hi.2,hk⟩) h
   | scope c=>simp only[run]at h;exact J1 n (by simp only[List.all_cons,Bool.and_eq_true];exact ⟨hi,hk⟩) h
   | seq a b =>
    simp only[run]at h;simp only[SD,JK,Bool.and_eq_true]at hi;exact J1 n (by simp only[List.all_cons,Bool.and_eq_true];exact ⟨hi.1,hi.2,hk⟩) h
   | cond x a b =>
    simp only[SD,JK,Bool.and_eq_true]at hi;simp only[run]at h;split at h
    ·exact J1 n (by simp only[List.all_cons,Bool.and_eq_true];exact ⟨hi.1,hk⟩) h
    ·exact J1 n (by simp only[List.all_cons,Bool.and_eq_true];exact ⟨hi.2,hk⟩) h
    ·cases h
   | block id c=>simp only[run]at h;exact J1 n (by simp only[List.all_cons,Bool.and_eq_true];exact ⟨hi,rfl,hk⟩) h
   | loop c=>simp only[run]at h;exact J1 n (by simp only[List.all_cons,Bool.and_eq_true];exact ⟨hi,hi,hk⟩) h
   | exit id =>
    simp only[run]at h;split at h
    ·rename_i k' he
     exact J1 n (YW hk he) h
    ·cases h
   | ret =>
    simp only[run,Option.some.injEq]at h;rw[h]
def Wg (fn:AFn) (r:AV) (tm:Tm) (_M:Mem):Prop := ∃ rs,TP tm fn.res=some rs/\I9 rs=r
def bW:AV->Bool
 | .g8 vs=>LL vs
 | v=>S8 v
theorem rY {σ:GN} {v:AV} (h:bW v=true):BC σ v=v:=by
 cases v with
 | g8 vs =>
  simp only[BC];congr 1;simp only[bW]at h;induction vs with
  | nil=>rfl
  | cons v r ih =>
   simp only[LL]at h;cases hv:S8 v<;>simp only[hv,cond_true,cond_false]at h
   ·cases h
   ·rw[List.map_cons,ih h]
    congr 1;cases v<;>first|rfl|(simp [S8,qf]at hv;done)|skip
    rename_i cs;exact bV (σ:=σ) (v := .agg cs) hv
 | _=>exact bV (σ:=σ) h
def XY (L:Lib) (f:Nat) (vs:List AV) (r:AV):Prop:=bW r=true/\(∀ σ:GN,vs.map (BC σ)=vs) /\ ∀ own:AJ,HS L f vs own r own
theorem rW {σ:GN} : ∀ {vs:List AV},LL vs=true->vs.map (BC σ)=vs
 | [],_=>rfl
 | v::r,h=>by
  simp only[LL]at h;cases hv:S8 v<;>simp only[hv,cond_true,cond_false]at h
  ·cases h
  ·rw[List.map_cons,bV hv,rW h]
theorem Wi {f:Nat} {fn:AFn} {vs:List AV} {r:AV} (hL:L f=some fn) (hp:Nat.beq vs.length fn.ae=true) (hd:LL vs=true) (ux:JK fn.body=true) (j9:ZQ 100000 fn.res=true) (hr:bW r=true) (h:AA L [.code fn.body] (CR 0 vs) [] (Wg fn r)):XY L f vs r:=by
 refine ⟨hr,λ σ=>rW hd,λ own => ?_⟩;obtain ⟨n,c,j8,q9,σ,tm,M,hR,rs,Eb,he⟩:=h (λ_ _=>(0,0)) ⟨CR 0 vs,own⟩ ⟨λ j=>Or.inr (by rw[LC];exact YD hd j),⟨(λ_ _ _ e=>by cases e),(λ_ _ _ e=>by simp [c5,c9]at e),(λ_ _ _ e=>by simp [c5,c9]at e),(λ_ _ _ _ _ _ e=>by simp [c5,c9]at e),(λ_ _ _ e=>by simp [c5,c9]at e)⟩⟩;have ho:=J1 n (by simp [SD,ux]) q9;obtain ⟨i1,i2⟩:=mU (N:=100000) (s:=j8) hR (λ_ _=>rfl) j9 Eb;refine HS.intro hL (BJ.1 hp) ⟨n,c,j8,q9,?_,ho⟩;rw[i1,Option.map_some,Om i2,he,rY hr]
theorem LG {f:Nat} {vs:List AV} {r:AV} {tm:Tm} {M:Mem} {K:AV->Mem->Prop} (h:XY L f vs r) (hk:K r M):A5 L f vs tm M K:=by
 intro σ own hs;refine ⟨r,own,σ,M,?_,hs,λ_=>rfl,hk⟩;rw[h.2.1 σ,rY h.1];exact h.2.2 own
end Go.c6

namespace Go.c6
variable {L:Lib}
def gT (fn:AFn) (z:Nat) (es:List (List AV)) (tm:Tm) (M:Mem):Prop:=match fn.res with
 | [.tmp t]=>match tg tm t with
  | .row k 0 z' 0 n=>match c9 M k with
   | some (_,.rw fg es')=>z'=z/\fg=z/\n=es.length/\es'=es/\EV es
   | _=>False
  | _=>False
 | _=>False
theorem KQ.x {f:Nat} {fn:AFn} {vs:List AV} {z:Nat} {es:List (List AV)} (hL:L f=some fn) (hp:Nat.beq vs.length fn.ae=true) (hd:LL vs=true) (h:AA L [.code fn.body] (CR 0 vs) [] (gT fn z es)):KQ L f vs z es:=by
 obtain ⟨n,c,j8,hr,σ,tm,M,hR,hq⟩:=h (λ_ _=>(0,0)) ⟨CR 0 vs,AJ.emp⟩ ⟨λ j=>Or.inr (by rw[LC];exact YD hd j),⟨(λ_ _ _ e=>by cases e),(λ_ _ _ e=>by simp [c5,c9]at e),(λ_ _ _ e=>by simp [c5,c9]at e),(λ_ _ _ _ _ _ e=>by simp [c5,c9]at e),(λ_ _ _ e=>by simp [c5,c9]at e)⟩⟩;unfold gT at hq;split at hq
 ·rename_i t gn
  split at hq
  ·rename_i k z' m Ax
   split at hq
   ·rename_i s fg es' hM
    obtain ⟨rfl,rfl,rfl,rfl,n6⟩:=hq;have hv:g7 j8.tm t = .row (σ k 0).1 (σ k 0).2 fg 0 es'.length:=by
     rcases hR.tm t with e|e
     ·rw[Ax]at e;cases e
     ·rw[e,Ax];rfl
    have hb:=hR.sat.e8 k 0 (.rw fg es') (by simp only[c5,hM]);obtain ⟨q,hq⟩:=HS.intro (r := .row (σ k 0).1 (σ k 0).2 fg 0 es'.length) (o':=j8.own) hL (BJ.1 hp) ⟨n,c,j8,hr,by simp [gn,F9,hv,JZ,I9],rfl⟩;refine ⟨q,?_⟩;simp only[hq,QV,AJ.get,hb];rw[if_pos (show (A8.e8 σ k (.rw fg es')).es.length=es'.length/\EV (A8.e8 σ k (.rw fg es')).es from ⟨rfl,n6⟩)];rfl
   ·exact hq.elim
  ·exact hq.elim
 ·exact hq.elim
theorem Xl {Q:Tm->Mem->Prop} {c:BG} {k:List It} {tm:Tm} {M:Mem} (n:Nat) (h:fT (sw 0 tm) λ tm=>WT M λ M=>XK L Q n (.code c::k) tm M):AA L (.code c::k) tm M Q:=by
 rw[WI,dA]at h;exact oT (gV h)
theorem TY {α:Type} {enc:α->List AV} {l:List α} {f z:Nat} {vs:List AV} {K:Nat->List (List AV)->Nat->Prop} (n:Nat) (h:KQ L f vs z (l.map enc)) (hn:n=l.length) (hk:K z (l.map enc) n):C7 L f vs K:=⟨z,_,n,h,by simpa using hn,hk⟩
end Go.c6

namespace Go.c6
def W4 (N:Nat):List KP->Bool
 | []=>true
 | .tmp t::r=>Nat.blt t N&&W4 N r
 | .cell t _ _::r=>Nat.blt t N&&W4 N r
theorem mW {N:Nat} {s s':St} (ho:s.own=s'.own) (ma : ∀ j,j<N->g7 s'.tm j=g7 s.tm j) : ∀ {res:List KP},W4 N res=true->res.mapM (F9 s)=res.mapM (F9 s')
 | [],_=>rfl
 | .tmp t::r,h=>by
  simp only[W4,Bool.and_eq_true]at h;have:=mW ho ma h.2
  simp only[List.mapM_cons,F9,ma t (UE.1 h.1),this]
 | .cell t agg n::r,h=>by
  simp only[W4,Bool.and_eq_true]at h;have:=mW ho ma h.2
  simp only[List.mapM_cons,F9,ma t (UE.1 h.1),this,ho]
def Wf (N:Nat) (fn:AFn) (tm:Tm) (K:AV->Mem->Prop) (z7:Tm) (M':Mem):Prop:=gh N z7=tm/\dX z7 M' fn.res (λ rs=>Vs rs λ v=>K v M')
theorem GK {L:Lib} {f:Nat} {fn:AFn} {vs:List AV} {tm:Tm} {M:Mem} {K:AV->Mem->Prop} (N:Nat) (hL:L f=some fn) (hp:Nat.beq vs.length fn.ae=true) (hN:(Nat.ble fn.ae N&&(JJ N fn.body&&W4 N fn.res))=true)
  (h:AA L [.code fn.body] (CR 0 vs++HQ N tm) M (Wf N fn tm K)):A5 L f vs tm M K:=by
 intro σ own hs;simp only[Bool.and_eq_true]at hN;obtain ⟨n1,n2,n3⟩:=hN;have n1:=Nat.le_of_ble_eq_true n1;have hp:vs.length=fn.ae:=Nat.eq_of_beq_eq_true hp;have Ec:RX σ (CR 0 vs++HQ N tm) M ⟨MX (BC σ) (CR 0 vs++HQ N tm),own⟩:=⟨λ j=>Or.inr (by rw[LC];exact LD (LV σ) j _),hs⟩;obtain ⟨n,c,s',hr,σ',z7,M',hR,hg,gn⟩:=h σ _ Ec;have Jx:Gh N (MX (BC σ) (HQ N tm)) (CR 0 (vs.map (BC σ))) (MX (BC σ) (CR 0 vs++HQ N tm)):=by
  constructor
  ·intro j hj
   rw[lE,LD (LV σ),LD (LV σ)];rcases Z7 j (HQ N tm) (CR 0 vs) with ⟨_,e⟩|⟨hn,e⟩
   ·rw[e]
   ·rw[e,oK hj,oI j 0 vs hn]
  ·intro j hj
   rw[LD (LV σ),LD (LV σ)];rcases Z7 j (HQ N tm) (CR 0 vs) with ⟨hn,e⟩|⟨_,e⟩
   ·have:=lD j 0 vs hn
    omega
   ·rw[e]
 obtain ⟨s,r1,r2,r3⟩:=J0 n (by simp [TI,n2]) Jx hr;obtain ⟨rs,i1,i2,i3⟩:=mV hR gn;rw[<-mW (s:=s) r2.symm r3.lo n3,i3]at i1;have key : ∃ r,I9 (rs.map (BM σ'))=BC σ' r/\K r M':=by
  match rs,i2,i3 with
  | [],h,_=>exact ⟨.g8 [],rfl,h⟩
  | [v],h,e =>
   simp only[List.map_cons,List.map_nil,List.cons.injEq,and_true]at e;exact ⟨v,by simp only[List.map_cons,List.map_nil,I9];exact e.symm,h⟩
  | a::b::l,h,_=>exact ⟨.g8 (a::b::l),rfl,h⟩
 obtain ⟨r,k1,k2⟩:=key;refine ⟨r,s.own,σ',M',HS.intro hL (by simpa using hp) ⟨n,c,s,r1,?_,rfl⟩,?_,?_,k2⟩
 ·rw[i1,Option.map_some,k1]
 ·rw[<-r2];exact hR.sat
 ·intro j
  have e1:tg tm j=tg z7 (N+j):=by rw[LC,LC,<-hg,oH]
  rcases hR.tm (N+j) with e|e
  ·rw[e1,e];rfl
  ·rw[e1,<-e,r3.hi (N+j) (by omega),LD (LV σ),oJ,<-LC,e1]
end Go.c6

namespace Go.c6
theorem Qj {A w C:List Nat} {i n:Nat} (hi:i=A.length+n) (hn:n<w.length):(A++w++C)[i]? = w[n]? := by
 subst hi;rw[List.append_assoc,List.getElem?_append_right (by omega),Nat.add_sub_cancel_left,List.getElem?_append_left hn]
theorem AlG {A w C:List Nat} {i n v:Nat} (hi:i=A.length+n) (hn:n<w.length):(A++w++C).set i v=A++w.set n v++C:=by
 subst hi;rw[List.append_assoc,List.set_append_right _ _ (by omega),Nat.add_sub_cancel_left,List.set_append_left _ _ hn,List.append_assoc]
theorem QS {A w C:List Nat} {i v:Nat} {KK:List (List AV)->Prop} (n:Nat) (hi:i=A.length+n) (hn:n<w.length) (h:KK ((A++w.set n v++C).map AL)):A6 ((A++w++C).map AL) i 0 [.int .u32 (v:Int)] KK:=by
 have hl:i<(A++w++C).length:=by simp;omega
 refine KA (enc:=AL) i v rfl rfl (λ_=>rfl) hl ?_;rw[AlG hi hn];exact h
theorem Ai7 {W X Vi p q u d c b pr t:Nat} (h:W+q*Vi=X+p*(c+b)) (pk:pr=q*d+c) (ht:t=E9 (E9 u (pr%4294967296)) b) (hu:u<4294967296) (hb:b<=1) :
  W+p*(t%4294967296)+q*(Vi+p*d)=X+p*u+p*4294967296*(pr/4294967296+t/9223372036854775808):=by
 obtain ⟨h1,_⟩:=fQ hu (show pr%4294967296<4294967296 by omega) hb;rw[<-ht]at h1;have h2:=Nat.mod_add_div pr 4294967296;generalize t%4294967296=w at *;generalize t/9223372036854775808=b' at *;generalize pr%4294967296=pl at *;generalize pr/4294967296=ph at *;have e1:p*(w+pl+b)=p*(u+4294967296*b'):=by rw[h1]
 have e2:p*(pl+4294967296*ph)=p*(q*d+c):=by rw[h2,pk]
 grind
theorem zJ {q d c pr:Nat} (hq:q<4294967296) (hd:d<4294967296) (hc:c<4294967296) (pk:pr=q*d+c):pr/4294967296<4294967296/\pr<=18446744073709551615/\q*d<=18446744065119617025:=by
 have:=WX hq hd
 omega
theorem Ai5 {W X V p q u c b t:Nat} (h:W+q*V=X+p*(c+b)) (ht:t=E9 (E9 u c) b) (hu:u<4294967296) (hc:c<4294967296) (hb:b<=1) :
  W+p*(t%4294967296)+q*V=X+p*u+p*4294967296*(t/9223372036854775808):=by
 obtain ⟨h1,_⟩:=fQ hu hc hb;rw[<-ht]at h1;generalize t%4294967296=w at *;generalize t/9223372036854775808=b' at *;have e1:p*(w+c+b)=p*(u+4294967296*b'):=by rw[h1]
 grind
theorem Ai8 {W X Vi p q u d c b pr w take have' au:Nat} (h:W+q*Vi=X+p*(c+b)) (pk:pr=c+q*d) (h1:take=pr%4294967296+b) (h2:(have'=u/\au=0/\take<=u)\/(have'=u+4294967296/\au=1/\u<take)) (h3:w+take=have') :
  W+p*w+q*(Vi+p*d)=X+p*u+p*4294967296*(pr/4294967296+au):=by
 have h4:=Nat.mod_add_div pr 4294967296;have h5:w+pr%4294967296+b=u+4294967296*au:=by omega
 generalize pr%4294967296=pl at *;generalize pr/4294967296=ph at *;have e1:p*(w+pl+b)=p*(u+4294967296*au):=by rw[h5]
 have e2:p*(pl+4294967296*ph)=p*(c+q*d):=by rw[h4,pk]
 grind
theorem Ai6 {W X V p q u c b w take have' au:Nat} (h:W+q*V=X+p*(c+b)) (h1:take=c+b) (h2:(have'=u/\au=0/\take<=u)\/(have'=u+4294967296/\au=1/\u<take)) (h3:w+take=have') :
  W+p*w+q*V=X+p*u+p*4294967296*au:=by
 have h5:w+c+b=u+4294967296*au:=by omega
 have e1:p*(w+c+b)=p*(u+4294967296*au):=by rw[h5]
 grind
theorem pZ {W X Vi p w d c t:Nat} (h:W+p*c=X+Vi) (ht:t=w+d+c):W+p*(t%4294967296)+p*4294967296*(t/4294967296)=X+p*w+(Vi+p*d):=by
 have h1:=R1 W p t;have e:p*t=p*w+p*d+p*c:=by rw[ht];grind
 omega
theorem pY {W X V R p w c:Nat} (h:W+p*c=X+V) (hX:X+p*w+V=R+p*4294967296) (hR:R<p*4294967296) (hW:W<p):W+p*((w+c)%4294967296)=R:=by
 have h1:W+p*(w+c)=R+p*4294967296:=by
  rw[Nat.mul_add];omega
 have h2:=Nat.mod_add_div (w+c) 4294967296;have h3:p*(w+c)=p*((w+c)%4294967296)+p*4294967296*((w+c)/4294967296):=by
  rw[Nat.mul_assoc,<-Nat.mul_add,h2]
 have h4:(w+c)%4294967296<4294967296:=Nat.mod_lt _ (by omega);generalize (w+c)%4294967296=m at *;generalize (w+c)/4294967296=k at *;have h5:W+p*m<p*4294967296:=by
  have:p*m+p<=p*4294967296:=by rw[<-Nat.mul_succ];exact Nat.mul_le_mul_left p (by omega)
  omega
 have h6:k=1:=by
  rcases Nat.lt_trichotomy k 1 with hk|hk|hk
  ·have:k=0:=by omega
   subst this;omega
  ·exact hk
  ·have:p*4294967296*2<=p*4294967296*k:=Nat.mul_le_mul_left _ (by omega)
   omega
 subst h6;omega
theorem Alm {U V UL VL p u2 v2 v1 top:Nat} (hU:U=UL+p*(u2+4294967296*top)) (hV:V=VL+p*(v2+4294967296*v1)) (yc:VL<p) (h2:v2<4294967296) (h:U<4294967296*V):top<4294967296*(v1+1):=by
 have h3:V<p*(4294967296*(v1+1)):=by
  have:p*(v2+4294967296*v1)+p<=p*(4294967296*(v1+1)):=by
   rw[<-Nat.mul_succ];exact Nat.mul_le_mul_left p (by omega)
  omega
 have h4:p*(4294967296*top)<=U:=by
  have:p*(4294967296*top)<=p*(u2+4294967296*top):=Nat.mul_le_mul_left p (by omega)
  omega
 have h5:p*(4294967296*top)<p*(4294967296*(4294967296*(v1+1))):=by
  have:p*(4294967296*(4294967296*(v1+1)))=4294967296*(p*(4294967296*(v1+1))):=by grind
  omega
 have:=Nat.lt_of_mul_lt_mul_left h5
 omega
structure Gs (U V v1 v2 u2 top q r:Nat):Prop where
 hq:q*v1+r=top
 hr:r<4294967296
 ge:U/V<=q
theorem Gs.next {U V UL VL p v1 v2 u2 top q r:Nat} (g:Gs U V v1 v2 u2 top q r) (hU:U=UL+p*(u2+4294967296*top)) (hV:V=VL+p*(v2+4294967296*v1)) (Af:UL<p) (z0:0<V) (Fs:U<4294967296*V)
  (h:4294967296<=q\/r*4294967296+u2<q*v2):1<=q/\(q-1)*v1+(r+v1)=top/\U/V<=q-1:=by
 have h1:U/V<q:=by
  rcases h with h|h
  ·exact AhP Fs h z0
  ·exact AhQ hU hV Af g.hq h z0
 have hq:=g.hq;clear h g hU hV Fs;generalize U/V=Q at *;obtain ⟨k,rfl⟩ : ∃ k,q=k+1:=⟨q-1,by omega⟩;refine ⟨by omega,?_,by omega⟩;rw[Nat.add_sub_cancel,<-hq,Nat.add_mul];omega
theorem Gs.start {U V UL VL p v1 v2 u2 top:Nat} (hU:U=UL+p*(u2+4294967296*top)) (hV:V=VL+p*(v2+4294967296*v1)) (Af:UL<p) (h2:u2<4294967296) (z0:0<V) (h1:0<v1) (h1b:v1<4294967296):Gs U V v1 v2 u2 top (top/v1) (top%v1):=by
 refine ⟨by rw[Nat.mul_comm];exact Nat.div_add_mod _ _,?_,?_⟩
 ·have:=Nat.mod_lt top h1
  omega
 ·rw[Nat.le_div_iff_mul_le h1]
  exact AhR hU hV Af h2 z0
theorem WP {U V UL VL p v1 v2 u2 top q r:Nat} (hU:U=UL+p*(u2+4294967296*top)) (hV:V=VL+p*(v2+4294967296*v1)) (yc:VL<p) (Gw:2147483648<=v1) (Gx:v2<4294967296) (Fs:U<4294967296*V) (hq:q*v1+r=top)
  (h:(q<4294967296/\q*v2<=r*4294967296+u2)\/4294967296<=r):q<4294967296/\q<=U/V+1:=by
 rcases h with ⟨h1,h2⟩|h
 ·exact ⟨h1,wY hU hV yc Gw hq h2 h1⟩
 ·have ht:=Alm hU hV yc Gx Fs
  have tf:q<4294967296:=by
   have h3:q*v1<4294967296*v1:=by omega
   exact Nat.lt_of_mul_lt_mul_right h3
  refine ⟨tf,wY hU hV yc Gw hq ?_ tf⟩;have:=WX tf Gx
  omega
theorem VP (a:List Nat) (k:Nat):val a=val (a.take k)+4294967296^k*val (a.drop k):=by
 rcases Nat.lt_or_ge a.length k with h|h
 ·rw[zT (by omega),List.drop_of_length_le (by omega),J5];omega
 ·exact LE a k h
theorem VO (a:List Nat) (k:Nat):val (a.drop k)=a.getD k 0+4294967296*val (a.drop (k+1)):=by
 rcases Nat.lt_or_ge k a.length with h|h
 ·rw[II (zE h),List.getD_eq_getElem?_getD,zE h];rfl
 ·rw[List.drop_of_length_le h,List.drop_of_length_le (by omega),List.getD_eq_getElem?_getD,List.getElem?_eq_none h];rfl
theorem TG {a:List Nat} (h:A1 a) (k:Nat):a.getD k 0<4294967296:=by
 rw[List.getD_eq_getElem?_getD];cases e:a[k]? with
 | none=>simp
 | some d=>simpa using h.at e
theorem getD_some {a:List Nat} {k d:Nat} (h:a[k]? = some d):d=a.getD k 0:=by rw[List.getD_eq_getElem?_getD,h];rfl
theorem TH {a:List Nat} {k:Nat} (h:a.length<=k):0=a.getD k 0:=by rw[List.getD_eq_getElem?_getD,List.getElem?_eq_none h];rfl
theorem fZ {a:List Nat} (hD:A1 a) {n:Nat} (hn:3<=n) (hl:a.length<=n) : ∃ r,r<4294967296^(n-3)/\val a=r+4294967296^(n-3)*(a.getD (n-3) 0+4294967296*(a.getD (n-2) 0+4294967296*a.getD (n-1) 0)):=by
 refine ⟨val (a.take (n-3)),?_,?_⟩
 ·refine Nat.lt_of_lt_of_le (F2 (hD.take _)) (Nat.pow_le_pow_right (by omega) ?_)
  rw[List.length_take];omega
 ·have h1:=VP a (n-3)
  have h2:=VO a (n-3);have h3:=VO a (n-3+1);have h4:=VO a (n-3+1+1);rw[List.drop_of_length_le (show a.length<=n-3+1+1+1 by omega),J5]at h4;rw[show n-3+1=n-2 by omega]at *;rw[show n-2+1=n-1 by omega]at *;rw[h4,Nat.mul_zero,Nat.add_zero]at h3;rw[h3]at h2;rw[h2]at h1;exact h1
theorem Pz {a:List Nat} (hD:A1 a) {n:Nat} (hn:2<=n) (hl:a.length<=n) : ∃ r,r<4294967296^(n-2)/\val a=r+4294967296^(n-2)*(a.getD (n-2) 0+4294967296*a.getD (n-1) 0):=by
 refine ⟨val (a.take (n-2)),?_,?_⟩
 ·refine Nat.lt_of_lt_of_le (F2 (hD.take _)) (Nat.pow_le_pow_right (by omega) ?_)
  rw[List.length_take];omega
 ·have h1:=VP a (n-2)
  have h2:=VO a (n-2);have h3:=VO a (n-2+1);rw[List.drop_of_length_le (show a.length<=n-2+1+1 by omega),J5]at h3;rw[show n-2+1=n-1 by omega]at *;rw[h3,Nat.mul_zero,Nat.add_zero]at h2;rw[h2]at h1;exact h1
theorem S9 {a b:Nat} (h:a<=b):(dg a).length<=(dg b).length:=by
 rcases Nat.lt_or_ge (dg b).length (dg a).length with h1|h1
 ·have:=XH h1;omega
 ·exact h1
theorem iX {p:Nat} (h:p<18446744073709551616):val [p%4294967296,p/4294967296]=p/\A1 [p%4294967296,p/4294967296]:=by
 refine ⟨by simp [val];omega,λ x hx => ?_⟩;simp at hx;omega
theorem HV {a:List Nat} {k d:Nat} (h:a[k]? = some d):a.getD k 0=d:=(getD_some h).symm
theorem lL {y:List Nat} {s yt:Nat} (hD:A1 y) (ve:y[y.length-1]? = some yt) (hl:1<=y.length) (hs:s<=31) (b3:2147483648<=yt*2^s) (b4:yt*2^s<4294967296):val y*2^s<4294967296^y.length/\4294967296^(y.length-1)*2147483648<=val y*2^s:=by
 have h1:=LE y (y.length-1) (by omega);have h2:=II ve;rw[List.drop_of_length_le (show y.length<=y.length-1+1 by omega),J5,Nat.mul_zero,Nat.add_zero]at h2;rw[h2]at h1;have h3:=F2 (hD.take (y.length-1));rw[List.length_take,Nat.min_eq_left (by omega)]at h3;have e:4294967296^y.length=4294967296^(y.length-1)*4294967296:=by rw[<-Nat.pow_succ,Nat.succ_eq_add_one,show y.length-1+1=y.length by omega]
 rw[e];generalize 4294967296^(y.length-1)=p at *;have hk:(yt+1)*2^s<=4294967296:=by
  have e2:4294967296=2^s*2^(32-s):=by rw[<-Nat.pow_add,show s+(32-s)=32 by omega]
  rw[e2,Nat.mul_comm]at b4;have:=Nat.lt_of_mul_lt_mul_left b4
  rw[e2,Nat.mul_comm];exact Nat.mul_le_mul_left _ this
 have h4:val y+1<=p*(yt+1):=by rw[Nat.mul_add];omega
 have h5:=zR (2^s) h4;have h6:p*((yt+1)*2^s)<=p*4294967296:=Nat.mul_le_mul_left p hk;rw[<-Nat.mul_assoc]at h6;have h7:p*2147483648<=p*(yt*2^s):=Nat.mul_le_mul_left p b3;have h8:p*(yt*2^s)<=val y*2^s:=by rw[<-Nat.mul_assoc];exact zR _ (by omega)
 have h9:=Nat.two_pow_pos s;rw[Nat.add_mul]at h5;exact ⟨by omega,by omega⟩
theorem Pq {v:List Nat} {k c d:Nat} (hD:A1 v) (hl:v.length=k+1) (h:4294967296^k*c<=val v) (hd:v[k]? = some d):c<=d:=by
 have h1:=LE v k (by omega);have h2:=II hd;rw[List.drop_of_length_le (show v.length<=k+1 by omega),J5,Nat.mul_zero,Nat.add_zero]at h2;rw[h2]at h1;have h3:=F2 (hD.take k);rw[List.length_take,Nat.min_eq_left (by omega)]at h3;generalize 4294967296^k=p at *;have h4:p*c<p*(d+1):=by rw[Nat.mul_add];omega
 have:=Nat.lt_of_mul_lt_mul_left h4
 omega
theorem tC (o:List Nat) (j n:Nat) (h:j+n<=o.length) : ∃ A W C,A.length=j/\W.length=n/\o=A++W++C:=by
 refine ⟨o.take j,(o.drop j).take n,(o.drop j).drop n,by simp;omega,by simp;omega,?_⟩;rw[List.append_assoc,List.take_append_drop,List.take_append_drop]
theorem sB {A W C:List Nat} (h:A1 (A++W++C)):A1 A/\A1 W/\A1 C:=by
 refine ⟨λ x hx=>h x (by simp [hx]),λ x hx=>h x (by simp [hx]),λ x hx=>h x (by simp [hx])⟩
theorem tE {A W C:List Nat} {j l V:Nat} (hA:A.length=j) (hW:W.length=l+1) (hD:A1 (A++W++C)) (h:val ((A++W++C).drop (j+1))<V) (hV:V<4294967296^l) :
  val C=0/\val W<4294967296*V/\val ((A++W++C).take (j+1))+4294967296^(j+1)*val ((A++W++C).drop (j+1))=val A+4294967296^j*val W:=by
 have h1:=VP (A++W++C) (j+1);have h2:val (A++W++C)=val A+4294967296^j*(val W+4294967296^(l+1)*val C):=by
  rw[List.append_assoc,XG,XG,hA,hW]
 have h3:=VO (A++W++C) j;have h4:(A++W++C).drop j=W++C:=by
  rw[List.append_assoc,List.drop_append_of_le_length (by omega),List.drop_of_length_le (by omega)];rfl
 have h5:=TG hD j;rw[h4,XG,hW]at h3;rw[Nat.pow_succ]at h3;have h6:val C=0:=by
  rcases Nat.eq_zero_or_pos (val C) with h0|h0
  ·exact h0
  ·have:4294967296^l*4294967296*1<=4294967296^l*4294967296*val C:=Nat.mul_le_mul_left _ h0
   omega
 rw[h6,Nat.mul_zero,Nat.add_zero]at h3;refine ⟨h6,by omega,?_⟩;rw[<-h1,h2,h6,Nat.mul_zero,Nat.add_zero]
theorem jL {A W C:List Nat} {j:Nat} (hA:A.length=j) (hC:val C=0):val ((A++W++C).drop j)=val W/\val ((A++W++C).take j)=val A:=by
 rw[List.append_assoc,List.drop_append_of_le_length (by omega),List.drop_of_length_le (by omega),List.take_append_of_le_length (by omega),zT (by omega),List.nil_append,XG,hC];simp
theorem tD {U VA P Q q V W R:Nat} (h:U=VA+P*W+P*4294967296*(Q*V)) (h2:W=q*V+R):U=VA+P*((q+4294967296*Q)*V+R):=by
 rw[h,h2];grind
section
variable {a b:Nat} {K:AV->Prop}
theorem pN (n:Nat) (hx:a%2^n=0) (hy:b<2^n) (h:a+b<=18446744073709551615) (hk:K (.int .u64 ((a+b:Nat):Int))):AC .or .u64 (a:Int) .u64 (b:Int) K :=
 gO n hx hy (show a+b<18446744073709551616 by omega) (IntWalk.u64_in _ (by omega)) hk
theorem aK (n:Nat) (hx:b%2^n=0) (hy:a<2^n) (h:a+b<=18446744073709551615) (hk:K (.int .u64 ((a+b:Nat):Int))):AC .or .u64 (a:Int) .u64 (b:Int) K:=by
 have e:C4 .or .u64 (a:Int) .u64 (b:Int)=C4 .or .u64 (b:Int) .u64 (a:Int):=by
  simp only[C4,if_true,BitVec.or_comm]
 rw[Nat.add_comm]at hk h;have hh:=pN (K:=K) n hx hy h hk;unfold AC at hh ⊢;rw[e];exact hh
end
theorem aJ {a:Nat} {K:AV->Prop} (h:a<=18446744069414584319) (hk:K (.int .u64 ((a+4294967296:Nat):Int))):AC .add .u64 (a:Int) .u64 4294967296 K :=
 HB (b:=4294967296) (by omega) hk
theorem KR {l:List Nat} {i e:Nat} {K:List AV->Prop} (he:l[i]? = some e) (h:K (AL e)):BA (l.map AL) (0+((i:Int)).toNat) 0 1 K :=
 gJ (e:=e) (by rw[Nat.zero_add,Int.toNat_natCast];exact he) rfl h
theorem Xd {l:List Nat} {i:Int} {e:Nat} {K:List AV->Prop} (he:l[i.toNat]? = some e) (h:K (AL e)):BA (l.map AL) (0+i.toNat) 0 1 K :=
 gJ (e:=e) (by rw[Nat.zero_add];exact he) rfl h
theorem S1 {A w C:List Nat} {i e:Nat} {K:List AV->Prop} (n:Nat) (he:w[n]? = some e) (hi:i=A.length+n) (h:K (AL e)):BA ((A++w++C).map AL) i 0 1 K:=by
 have hn:=(zS he).1;exact gJ (e:=e) (by rw[Qj hi hn];exact he) rfl h
end Go.c6

namespace Go.c6
def WQ (n s:Nat):Nat:=4294967296^(n-3)*(2^(32-s)*4)
theorem AiL (n s:Nat):0<WQ n s:=Nat.mul_pos (Nat.pow_pos (by omega)) (Nat.mul_pos (Nat.two_pow_pos _) (by omega))
theorem xU {a:List Nat} (hD:A1 a) {n s d1 d2 d3:Nat} (hn:3<=n) (hl:a.length<=n) (hs:s<=31) (h1:d1=a.getD (n-1) 0) (h2:d2=a.getD (n-2) 0) (h3:d3=a.getD (n-3) 0) :
  ((d1*4294967296+d2)*2^s+d3*2^s/4294967296)/4=val a/WQ n s:=by
 obtain ⟨r,hr,hv⟩:=fZ hD hn hl;rw[<-h1,<-h2,<-h3]at hv;unfold WQ;rw[hv,<-Nat.div_div_eq_div_mul,Nat.add_mul_div_left _ _ (Nat.pow_pos (by omega)),Nat.div_eq_of_lt hr,Nat.zero_add,<-Nat.div_div_eq_div_mul];congr 1;have e:d3+4294967296*(d2+4294967296*d1)=d3+2^(32-s)*(2^s*(d1*4294967296+d2)):=by
  rw[<-Nat.mul_assoc,<-Nat.pow_add,show 32-s+s=32 by omega];omega
 rw[e,Nat.add_mul_div_left _ _ (Nat.two_pow_pos _)];have:=Na (d:=d3) (s:=s) (by omega)
 rw[VF]at this;rw[this,Nat.mul_comm (2^s)];omega
theorem xV {a:List Nat} (hD:A1 a) {n s d1 d2:Nat} (hn:3<=n) (hl:a.length<=n) (h1:d1=a.getD (n-1) 0) (h2:d2=a.getD (n-2) 0) (j9:val a*2^s<4294967296^n) :
  (d1*4294967296+d2)*2^s<=18446744073709551615:=by
 obtain ⟨r,hr,hv⟩:=fZ hD hn hl;rw[<-h1,<-h2]at hv;generalize a.getD (n-3) 0=d3 at *;have e:4294967296^n=4294967296^(n-3)*(4294967296*18446744073709551616):=by
  rw[show n=n-3+3 by omega,Nat.pow_add,show n-3+3-3=n-3 by omega]
 rw[e,hv]at j9;generalize 4294967296^(n-3)=p at *;have h3:p*(4294967296*((d1*4294967296+d2)*2^s))<p*(4294967296*18446744073709551616):=by
  refine Nat.lt_of_le_of_lt ?_ j9;rw[<-Nat.mul_assoc,<-Nat.mul_assoc];refine zR _ ?_;have h5:p*(4294967296*(d2+4294967296*d1))<=p*(d3+4294967296*(d2+4294967296*d1)):=Nat.mul_le_mul_left p (by omega);rw[Nat.mul_assoc,show d1*4294967296+d2=d2+4294967296*d1 by omega];omega
 have:=Nat.lt_of_mul_lt_mul_left (Nat.lt_of_mul_lt_mul_left h3)
 omega
theorem dG {k s:Nat} (hs:s<=64) (h:k*2^s<=18446744073709551615):k*2^s+2^s<=18446744073709551616:=by
 have e:18446744073709551616=2^(64-s)*2^s:=by rw[<-Nat.pow_add,show 64-s+s=64 by omega]
 have h1:k<2^(64-s):=by
  refine Nat.lt_of_mul_lt_mul_right (a:=2^s) ?_;rw[<-e];omega
 have h2:=zR (2^s) h1;rw[Nat.succ_mul,<-e]at h2;exact h2
theorem xW {a:List Nat} (hD:A1 a) {n s:Nat} (hn:3<=n) (hl:a.length<=n) (hs:s<=31) (j9:val a*2^s<4294967296^n):val a/WQ n s<=4611686018427387904:=by
 rw[<-xU hD hn hl hs rfl rfl rfl];have h1:=xV hD hn hl rfl rfl j9;have b3:=TG hD (n-3);have h2:=dG (show s<=64 by omega) h1;obtain ⟨_,h3,_,_⟩:=VG (s:=s) b3 (by omega);rw[VF]at h3;generalize (a.getD (n-1) 0*4294967296+a.getD (n-2) 0)*2^s=T at *;generalize a.getD (n-3) 0*2^s=U at *;omega
theorem xX {V K:Nat} (hK:0<K) : ∃ e:Int,(V:Int)=(K:Int)*((V/K:Nat):Int)+e/\0<=e/\e<=K:=by
 refine ⟨((V%K:Nat):Int),?_,by omega,?_⟩
 ·have:=Nat.div_add_mod V K
  have h2:((K*(V/K)+V%K:Nat):Int)=(V:Int):=by rw[this]
  rw[<-h2];simp
 ·have:=Nat.mod_lt V hK
  omega
def X9 (t:Int):Nat:=(t%4294967296).toNat
theorem rF (t:Int):X9 t<4294967296:=by unfold X9;omega
theorem iM (t:Int):(X9 t:Int)=t%4294967296:=by unfold X9;omega
def SZ (f g:Int):Prop:=(0<=f/\f<=2147483647 /\ -2147483647<=g/\g<=0)\/(-2147483647<=f/\f<=0/\0<=g/\g<=2147483647)
theorem My {f:Int} {d:Nat} (hd:d<4294967296):(0<=f->f<=2147483647->0<=f*d/\f*d<=9223372030412324865)/\(f<=0 -> -2147483647<=f->f*d<=0 /\ -9223372030412324865<=f*d):=by
 constructor
 ·intro h0 h1
  refine ⟨Int.mul_nonneg h0 (by omega),?_⟩;have:f*d<=2147483647*4294967295:=Int.mul_le_mul h1 (by omega) (by omega) (by omega)
  omega
 ·intro h0 h1
  have a1:0<=(-f)*d:=Int.mul_nonneg (by omega) (by omega);have a2:(-f)*d<=2147483647*4294967295:=Int.mul_le_mul (by omega) (by omega) (by omega) (by omega);rw[Int.neg_mul]at a1 a2;omega
theorem SZ.Vr {f g:Int} (h:SZ f g) {d e:Nat} (hd:d<4294967296) (he:e<4294967296):(-9223372030412324865<=f*d/\f*d<=9223372030412324865)/\(-9223372030412324865<=g*e/\g*e<=9223372030412324865) /\ -9223372030412324865<=f*d+g*e/\f*d+g*e<=9223372030412324865:=by
 obtain ⟨a1,a2⟩:=My (f:=f) hd;obtain ⟨b1,b2⟩:=My (f:=g) he;rcases h with ⟨h1,h2,h3,h4⟩|⟨h1,h2,h3,h4⟩
 ·have:=a1 h1 h2;have:=b2 h4 h3;omega
 ·have:=a2 h2 h1;have:=b1 h3 h4;omega
theorem rG {V X Y p c f g d e t:Int} (h:V+p*c=f*X+g*Y) (ht:t=f*d+c+g*e):V+p*(t%4294967296)+p*4294967296*(t/4294967296)=f*(X+p*d)+g*(Y+p*e):=by
 have h1:=Int.emod_add_mul_ediv t 4294967296;have h2:p*(t%4294967296)+p*4294967296*(t/4294967296)=p*t:=by
  rw[Int.mul_assoc,<-Int.mul_add,h1]
 have h3:p*t=f*(p*d)+p*c+g*(p*e):=by rw[ht];grind
 have h4:f*(X+p*d)=f*X+f*(p*d):=by rw[Int.mul_add]
 have h5:g*(Y+p*e)=g*Y+g*(p*e):=by rw[Int.mul_add]
 omega
theorem Aej {V P:Nat} {c R:Int} (hV:V<P) (h:(V:Int)+P*c=R) (h0:0<=R) (h1:R<P):(V:Int)=R:=by
 have hc:c=0:=by
  rcases Int.lt_trichotomy c 0 with hc|hc|hc
  ·have:(P:Int)*c<=P*(-1):=Int.mul_le_mul_of_nonneg_left (by omega) (by omega)
   omega
  ·exact hc
  ·have:(P:Int)*1<=P*c:=Int.mul_le_mul_of_nonneg_left (by omega) (by omega)
   omega
 subst hc;omega
theorem Y2 (x y:Nat):Nat.gcd y (x%y)=Nat.gcd x y:=by
 rw[Nat.gcd_comm x y,Nat.gcd_rec y x];exact Nat.gcd_comm _ _
def zv (neg:Bool) (m:List Nat):Int:=bif neg then -(val m:Int) else (val m:Int)
abbrev rZ (q neg:Bool) (m:List Nat):List AV:=[.bool neg,.sl q (m.map AL)]
abbrev eZ (z:Int):List AV:=rZ false (decide (z<0)) (dg z.natAbs)
theorem FS (neg:Bool) (m:List Nat):(zv neg m).natAbs=val m:=by cases neg<;>simp [zv]
theorem GI (z:Int):zv (decide (z<0)) (dg z.natAbs)=z:=by
 unfold zv;rw[BQ];by_cases h:z<0
 ·simp [h];omega
 ·simp [h];omega
def Sm (n:Nat) (m:List Nat):Prop:=A1 m/\m.length<=n
theorem Sm.dg {n V:Nat} (h:V<4294967296^n):Sm n (dg V):=⟨EF V,Q1.2 h⟩
theorem Sm.le {n n':Nat} {m:List Nat} (h:Sm n m) (hn:n<=n'):Sm n' m:=⟨h.1,by have:=h.2;omega⟩
theorem Sm.val {n:Nat} {m:List Nat} (h:Sm n m):val m<4294967296^n:=Nat.lt_of_lt_of_le (F2 h.1) (Nat.pow_le_pow_right (by omega) h.2)
theorem Sm.tk {n:Nat} {m:List Nat} (h:Sm n m):Sm n (Go.c6.dg (Go.c6.val m)):=Sm.dg h.val
theorem FF {z:Int} {b:Bool} {n:Nat} (h1:n=z.natAbs) (h2:b=decide (z<0)):AV.agg [.bool b,.sl false ((dg n).map AL)] = .agg (eZ z):=by rw[h1,h2]
theorem D5 (z:Int):AZ (.agg (eZ z)):=by
 simp only[AZ,BS,and_true,true_and];exact C2 _
theorem P7 {z:Int} (h:z<0):true=decide (z<0):=by simp [h]
theorem HP {z:Int} (h:0<=z):false=decide (z<0):=by simp;omega
theorem Ni (n:Nat):Sm n []:=⟨WA,Nat.zero_le _⟩
theorem nK {n d:Nat} (hn:1<=n) (hd:d<4294967296):Sm n [d]:=⟨IO hd,hn⟩
theorem Ph (b:Bool):zv b []=0:=by cases b<;>rfl
theorem Sm.low {n V:Nat} {m:List Nat} (h:Sm n m) (hV:V<=Go.c6.val m):Sm n (Go.c6.dg V):=Sm.dg (Nat.lt_of_le_of_lt hV h.val)
theorem Sm.mul {n k:Nat} {a b:List Nat} (ha:Sm n a) (hb:Sm k b) {V:Nat} (hV:V=Go.c6.val a*Go.c6.val b):Sm (n+k) (Go.c6.dg V):=by
 refine Sm.dg ?_;rw[hV,Nat.pow_add];exact Nat.mul_lt_mul_of_le_of_lt (Nat.le_of_lt ha.val) hb.val (Nat.pow_pos (by omega))
theorem Sm.add {n:Nat} {a b:List Nat} (ha:Sm n a) (hb:Sm n b) {V:Nat} (hV:V<=Go.c6.val a+Go.c6.val b):Sm (n+1) (Go.c6.dg V):=by
 refine Sm.dg ?_;have h1:=ha.val;have h2:=hb.val;rw[Nat.pow_succ];omega
theorem JN (V:Nat):(dg V).length=0↔V=0:=by rw[List.length_eq_zero_iff,iY]
theorem FK (m:List Nat):zv false m=(val m:Int):=rfl
theorem RR (m:List Nat):zv true m = -(val m:Int):=rfl
def o9 (z:Int):Int:=if z<0 then -1 else if 0<z then 1 else 0
theorem nG {z:Int} (h:z<0) : -1=o9 z:=by unfold o9;rw[if_pos h]
theorem nH {z:Int} (h:0<z):1=o9 z:=by unfold o9;rw[if_neg (by omega),if_pos h]
theorem eN {z:Int} (h:z=0):0=o9 z:=by unfold o9;rw[if_neg (by omega),if_neg (by omega)]
theorem Qa {n:Nat} (h:n<18446744073709551616):val [n%4294967296,n/4294967296]=n:=(by simp [val];omega)
end Go.c6
