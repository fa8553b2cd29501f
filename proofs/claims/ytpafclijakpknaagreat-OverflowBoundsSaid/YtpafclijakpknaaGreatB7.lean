/-
  The walk by computation is sound: calls, regions, code, loops, functions.
-/
import Derived.Test.YtpafclijakpknaaGreatB6
import Derived.Test.YtpafclijakpknaaGreatB2
set_option linter.unusedSimpArgs false
set_option linter.unusedVariables false
set_option linter.unnecessarySimpa false
namespace Go.c9
section
variable {σ:OA} {tm:Tm} {M:Mem} {st:St} {L:Lib} {c4:List Nat}
theorem Amp {own:C2} {q:Bool} {d:Nat} : ∀ {e:List AV},N0 e=true->e.mapM (snap own q d)=some e
 | [],_=>rfl
 | v::r,h=>by
  have hv:snap own q d v=some v/\N0 r=true:=by
   cases v<;>simp only[N0]at h<;>first|cases h|exact ⟨by cases d<;>rfl,h⟩
  rw[List.mapM_cons,hv.1,Amp hv.2];rfl
theorem Ams {own:C2} {q:Bool} {d:Nat} : ∀ {e:List AV},gL e=true->e.mapM (snap own q d)=some (e.map nl)
 | [],_=>rfl
 | v::r,h=>by
  have hv:snap own q d v=some (nl v)/\gL r=true:=by
   cases v<;>simp only[gL]at h<;>first|cases h|exact ⟨by cases d<;>rfl,h⟩
  rw[List.mapM_cons,hv.1,Ams hv.2];rfl
theorem Amq {own:C2} {q:Bool} {d:Nat} : ∀ {es:List (List AV)},(∀ e∈es,gL e=true)->es.mapM (λ cs:List AV=>cs.mapM (snap own q d))=some (es.map λ e=>e.map nl)
 | [],_=>rfl
 | e::r,h=>by
  rw[List.mapM_cons,Ams (h e List.mem_cons_self),Amq λ x hx=>h x (List.mem_cons_of_mem _ hx)];rfl
theorem Amo {own:C2} {q:Bool} {d:Nat} : ∀ {es:List (List AV)},(∀ e∈es,N0 e=true)->es.mapM (λ cs:List AV=>cs.mapM (snap own q d))=some es
 | [],_=>rfl
 | e::r,h=>by
  rw[List.mapM_cons,Amp (h e List.mem_cons_self),Amo λ x hx=>h x (List.mem_cons_of_mem _ hx)];rfl
theorem Anu (hs:YF σ st.own M) {q:Bool} {v:AV} {K:AV->Prop} (h:vD q M c4 v K) : ∃ v',(∀ d,snap (st.own.w6 c4) q (d+1) (E7 σ v)=some v')/\K v'/\v ≠ .any/\GD σ v=E7 σ v:=by
 cases v with
 | row key t z off len =>
  have fin : ∀ (z':Nat) (es:List (List AV)),((st.own.w6 c4) (σ key t).1).k8 (σ key t).2=some ⟨z',es⟩->z=z'->EF es off len (λ es=>K (.sl q es)) -> ∃ v',(∀ d,snap (st.own.w6 c4) q (d+1) (E7 σ (.row key t z off len))=some v')/\K v'/\AV.row key t z off len ≠ .any/\GD σ (.row key t z off len)=E7 σ (.row key t z off len):=by
   intro z' es hb hz h;subst hz;obtain ⟨h1,h2,h3⟩:=h;refine ⟨_,λ d => ?_,h3,(by intro e;cases e),rfl⟩;simp only[E7,snap,MV,C2.get,hb];rw[if_pos ⟨h1,trivial⟩];simp only;rw[Amq λ e he=>h2 e (List.mem_of_mem_drop (List.mem_of_mem_take he))];rfl
  simp only[vD]at h;split at h
  ·rename_i s z' es hm
   split at h
   ·cases hz:Nat.beq z z'<;>simp only[hz,cond_true,cond_false]at h
    cases hb:sG s c4<;>simp only[hb,cond_true,cond_false]at h;refine fin z' es ?_ (GU.1 hz) h;have fk:=hs.k8 _ _ _ (MI hm);rw[hs.site _ _ _ hm]at fk ⊢;rw[yC hb];exact fk
   ·exact h.elim
  ·rename_i s rows hm
   split at h
   ·exact h.elim
   ·rename_i i
    split at h
    ·obtain ⟨z',es,g,h⟩:=h
     cases hz:Nat.beq z z'<;>simp only[hz,cond_true,cond_false]at h;exact fin z' es (hs.k8 key (i+1) (.rw z' es) (by simp [g6,hm,g])) (GU.1 hz) h
    ·rename_i b r
     cases hb:uN (b::r)<;>simp only[hb,cond_true,cond_false]at h;obtain ⟨z',es,g,h⟩:=h;cases hz:Nat.beq z z'<;>simp only[hz,cond_true,cond_false]at h;have g':g6 M key (i+1)=some (.rw z' es):=by simp [g6,hm,g]
     refine fin z' es ?_ (GU.1 hz) h;rw[AfX (hs.low _ _ _ g' rfl) hb];exact hs.k8 key (i+1) (.rw z' es) g'
  ·exact h.elim
 | int k n=>exact ⟨_,λ d=>rfl,h,(by intro e;cases e),rfl⟩
 | bool b=>exact ⟨_,λ d=>rfl,h,(by intro e;cases e),rfl⟩
 | sl l es=>exact ⟨_,λ d=>rfl,h,(by intro e;cases e),rfl⟩
 | gx c=>exact ⟨_,λ d=>rfl,h,(by intro e;cases e),rfl⟩
 | nil=>exact ⟨_,λ d=>rfl,h,(by intro e;cases e),rfl⟩
 | _=>exact (h:False).elim
theorem Ant (hs:YF σ st.own M) {q:Bool} : ∀ {l:List AV} {K:List AV->Prop},AcT q M c4 l K -> ∃ l',(∀ d,(l.map (E7 σ)).mapM (snap (st.own.w6 c4) q (d+1))=some l')/\K l'
 | [],K,h=>⟨[],λ d=>rfl,h⟩
 | v::r,K,h=>by
  obtain ⟨v',h1,h2,_⟩:=Anu hs (show vD q M c4 v λ v'=>AcT q M c4 r λ r'=>K (v'::r') from h);obtain ⟨l',h3,h4⟩:=Ant hs h2;refine ⟨v'::l',λ d => ?_,h4⟩;rw[List.map_cons,List.mapM_cons,h1 d,h3 d];rfl
theorem Ans (hs:YF σ st.own M) {q:Bool} : ∀ {l:List (List AV)} {K:List (List AV)->Prop},AgJ q M c4 l K -> ∃ l',(∀ d,(l.map λ cs=>cs.map (E7 σ)).mapM (λ cs:List AV=>cs.mapM (snap (st.own.w6 c4) q (d+1)))=some l')/\K l'
 | [],K,h=>⟨[],λ d=>rfl,h⟩
 | v::r,K,h=>by
  obtain ⟨v',h1,h2⟩:=Ant hs (show AcT q M c4 v λ v'=>AgJ q M c4 r λ r'=>K (v'::r') from h);obtain ⟨l',h3,h4⟩:=Ans hs h2;refine ⟨v'::l',λ d => ?_,h4⟩;rw[List.map_cons,List.mapM_cons,h1 d,h3 d];rfl
theorem Agr {own:C2} {q:Bool} {d:Nat} {k:Nat} : ∀ {rows:List (Option (Nat × List (List AV)))} {i:Nat},(∀ j z es,rows[j]? = some (some (z,es))->(own (σ k (i+j+1)).1).k8 (σ k (i+j+1)).2=some ⟨z,es⟩ /\ ∀ e∈es,N0 e=true) ->
  (IE σ k i rows).mapM (λ cs:List AV=>cs.mapM (snap own q (d+1)))=some (oI q rows)
 | [],i,h=>rfl
 | none::r,i,h=>by
  rw[IE,List.mapM_cons,Agr (i:=i+1) λ j z es hj=>by
   have:=h (j+1) z es (by simpa using hj)
   rwa [show i+(j+1)+1=i+1+j+1 by omega]at this]
  rfl
 | some (z,es)::r,i,h=>by
  rw[IE,List.mapM_cons,Agr (i:=i+1) λ j z es hj=>by
   have:=h (j+1) z es (by simpa using hj)
   rwa [show i+(j+1)+1=i+1+j+1 by omega]at this]
  obtain ⟨h1,h2⟩:=h 0 z es rfl;have:snap own q (d+1) (.row (σ k (i+1)).1 (σ k (i+1)).2 z 0 es.length)=some (.sl q es):=by
   simp only[snap,MV,C2.get];rw[show (own (σ k (i+1)).1).k8 (σ k (i+1)).2=some ⟨z,es⟩ from h1];simp only[Nat.zero_add,Nat.le_refl,and_self,if_true,List.drop_zero];rw[zT (Nat.le_refl _),Amo h2];rfl
  rw[List.mapM_cons,this];rfl
theorem Anr (hs:YF σ st.own M) {q:Bool} {v:AV} {K:AV->Prop} (h:Zx q M c4 v K) : ∃ v',snap (st.own.w6 c4) q 6 (E7 σ v)=some v'/\K v'/\v ≠ .any/\GD σ v=E7 σ v/\JD (st.own.w6 c4) q (E7 σ v)=some v':=by
 have Ea:vD q M c4 v K -> ∃ v',snap (st.own.w6 c4) q 6 (E7 σ v)=some v'/\K v'/\v ≠ .any/\GD σ v=E7 σ v/\JD (st.own.w6 c4) q (E7 σ v)=some v':=by
  intro h;obtain ⟨v',h1,h2,h3,h4⟩:=Anu hs h;refine ⟨v',h1 5,h2,h3,h4,?_⟩;have:=h1 5
  cases v<;>first|exact this|exact (h:False).elim
 unfold Zx at h;split at h
 ·rename_i key z off len
  split at h
  ·rename_i s z' es hm
   cases hz:Nat.beq z z'<;>simp only[hz,cond_true,cond_false]at h;cases hb:sG s c4<;>simp only[hb,cond_true,cond_false]at h;cases ho:Nat.beq off 0<;>simp only[ho,cond_true,cond_false]at h;obtain rfl:=GU.1 hz;obtain rfl:=GU.1 ho;obtain ⟨rfl,h⟩:=h;obtain ⟨l',h1,h2⟩:=Ans hs h;have fk:=hs.k8 _ _ _ (MI hm);rw[hs.site _ _ _ hm]at fk;have key:snap (st.own.w6 c4) q 6 (E7 σ (.row key 0 z 0 es.length))=some (.sl q l'):=by
    simp only[E7,snap,MV,C2.get,hs.site _ _ _ hm];rw[yC hb,fk];simp only[FB.k8,Nat.zero_add,List.length_map,Nat.le_refl,and_self,if_true,List.drop_zero];rw[zT (by simp),h1 4];rfl
   exact ⟨_,key,h2,(by intro e;cases e),rfl,key⟩
  ·rename_i s rows hm
   split at h
   ·cases hz:Nat.beq z 1<;>simp only[hz,cond_true,cond_false]at h
    obtain rfl:=GU.1 hz;obtain ⟨rfl,rfl,h1,h2⟩:=h;have fk:=hs.k8 _ _ _ (MI hm);have key:snap (st.own.w6 []) q 6 (E7 σ (.row key 0 1 0 rows.length))=some (.sl q (oI q rows)):=by
     simp only[E7,snap,MV,C2.get,C2.w6];rw[fk];simp only[FB.k8,Nat.zero_add,PJ,Nat.le_refl,and_self,if_true,List.drop_zero];rw[zT (by rw[PJ];exact Nat.le_refl _),Agr (i:=0) λ j z es hj=>⟨by
      have:=hs.k8 key (j+1) (.rw z es) (by simp [g6,hm,hj])
      simpa [FB.k8] using this,h1 z es (zM hj)⟩]
     rfl
    exact ⟨_,key,h2,(by intro e;cases e),rfl,key⟩
   ·exact h.elim
  ·exact Ea h
 ·exact Ea h
theorem Anv (hs:YF σ st.own M) {q:Bool} : ∀ {l:List AV} {K:List AV->Prop},snL q M c4 l K -> ∃ l',(l.map (E7 σ)).mapM (snap (st.own.w6 c4) q 6)=some l'/\K l'
 | [],K,h=>⟨[],rfl,h⟩
 | v::r,K,h=>by
  obtain ⟨v',h1,h2,_⟩:=Anr hs (show Zx q M c4 v λ v'=>snL q M c4 r λ r'=>K (v'::r') from h);obtain ⟨l',h3,h4⟩:=Anv hs h2;refine ⟨v'::l',?_,h4⟩;rw[List.map_cons,List.mapM_cons,h1,h3];rfl
theorem AcP (hs:YF σ st.own M) {q:Bool} {v:AV} {K:AV->Prop} (h:qR q M c4 v K) : ∃ v',JD (st.own.w6 c4) q (FG σ v)=some v'/\K v'/\v ≠ .any/\FG σ v=GD σ v:=by
 cases v with
 | agg cs =>
  simp only[qR]at h;obtain ⟨l',h1,h2⟩:=Anv hs h;refine ⟨.agg l',?_,h2,(by intro e;cases e),rfl⟩;simp only[ZO,JD,h1,Option.map_some]
 | j5 vs=>exact (h:False).elim
 | fn p f g cs=>exact (h:False).elim
 | any=>exact (h:False).elim
 | _ =>
  simp only[qR]at h;obtain ⟨v',h1,h2,h3,h4,h5⟩:=Anr hs h;exact ⟨v',h5,h2,h3,rfl⟩
theorem AcW (hr:RX σ tm M st) : ∀ {xs:List C4} {K:List AV->Prop},Zy tm M c4 xs K -> ∃ vs,(xs.map st.ev).mapM (JD (st.own.w6 c4) true)=some vs/\K vs
 | [],K,h=>⟨[],rfl,h⟩
 | x::r,K,h=>by
  obtain ⟨v',h1,h2,h3,_⟩:=AcP hr.sat (show qR true M c4 (ex tm x) λ v=>Zy tm M c4 r λ vs=>K (v::vs) from h);obtain ⟨l',h4,h5⟩:=AcW hr h2;refine ⟨v'::l',?_,h5⟩;rw[List.map_cons,List.mapM_cons,hr.ev rfl h3,h1,h4];rfl
theorem Axd (hs:YF σ st.own M) {v:AV} {K:AV->Prop} (h:snN M c4 v K) : ∃ v',oT (st.own.w6 c4) true (FG σ v)=some v'/\K v'/\v ≠ .any/\FG σ v=GD σ v:=by
 cases v with
 | nil=>exact ⟨.nil,rfl,h,(by intro e;cases e),rfl⟩
 | _ =>
  simp only[snN]at h;obtain ⟨v',h1,h2,h3,h4⟩:=AcP hs h;exact ⟨v',h1,h2,h3,h4⟩
theorem Anw (hr:RX σ tm M st) : ∀ {xs:List C4} {K:List AV->Prop},AgO tm M c4 xs K -> ∃ vs,(xs.map st.ev).mapM (oT (st.own.w6 c4) true)=some vs/\K vs
 | [],K,h=>⟨[],rfl,h⟩
 | x::r,K,h=>by
  obtain ⟨v',h1,h2,h3,_⟩:=Axd hr.sat (show snN M c4 (ex tm x) λ v=>AgO tm M c4 r λ vs=>K (v::vs) from h);obtain ⟨l',h4,h5⟩:=Anw hr h2;refine ⟨v'::l',?_,h5⟩;rw[List.map_cons,List.mapM_cons,hr.ev rfl h3,h1,h4];rfl
theorem Vh (hr:RX σ tm M st) : ∀ {xs:List C4} {K:List AV->Prop},xG tm xs K -> ∃ vs,xs.map st.ev=vs.map (FG σ)/\K vs
 | [],K,h=>⟨[],rfl,h⟩
 | x::r,K,h=>by
  obtain ⟨h1,h2⟩:=Ab1 (show fV (ex tm x) λ v=>xG tm r λ vs=>K (v::vs) from h);obtain ⟨vs,h3,h4⟩:=Vh hr h2;exact ⟨ex tm x::vs,by rw[List.map_cons,List.map_cons,hr.ev rfl h1,h3],h4⟩
theorem AiD {v:AV} (h:EA v):E7 σ v=v:=by
 cases v<;>first|rfl|(simp only[EA]at h)
theorem AiB : ∀ {l:List AV},GK l->l.map (E7 σ)=l
 | [],_=>rfl
 | v::r,h=>by
  simp only[GK]at h;rw[List.map_cons,AiD h.1,AiB h.2]
theorem AiE {v:AV} (h:EA v):GD σ v=v:=by
 cases v with
 | agg cs=>simp only[EA]at h;simp only[GD,AiB h]
 | fn p f g cs=>simp only[EA]at h
 | _=>exact AiD (σ:=σ) h
theorem AiC : ∀ {l:List AV},GK l->l.map (GD σ)=l
 | [],_=>rfl
 | v::r,h=>by
  simp only[GK]at h;rw[List.map_cons,AiE h.1,AiC h.2]
theorem Ad2 {v:AV} (h:EA v):FG σ v=v:=by
 cases v with
 | j5 cs=>simp only[EA]at h;simp only[FG,AiC h]
 | _=>exact AiE (σ:=σ) h
theorem AmH {I:List AV->Option (AV × C2)} {vs:List AV} {r:AV} (h:Y4 I vs=some r):EA r:=by
 unfold Y4 at h;split at h
 ·split at h
  ·split at h
   ·obtain rfl:=Option.some.inj h
    assumption
   ·cases h
  ·cases h
 ·cases h
theorem Ev.clean {f:Nat} {vs:List AV} {r:AV} (h:Ev L f vs r):EA r:=by
 obtain ⟨n,h⟩:=h;unfold V3 cU at h;split at h
 ·split at h
  ·rename_i r1 r2 h1 h2
   split at h
   ·obtain rfl:=Option.some.inj h
    exact AmH h1
   ·cases h
  ·cases h
 ·exact AmH h
theorem RX.put (h:RX σ tm M st) (d:Nat) {v v':AV} (e:v'=FG σ v):RX σ ((d,v)::tm) M ⟨rn st.tm d v',st.own⟩:=by
 refine ⟨λ j => ?_,h.sat⟩;simp only[tg,Rk];cases hb:Nat.beq j d
 ·rw[if_neg (OB.1 hb)];exact h.tm j
 ·rw[if_pos (GU.1 hb)];exact Or.inr e
theorem Amt : ∀ {cs:List AV},Sl cs=true->cs.map (FG σ)=cs.map (E7 σ)
 | [],_=>rfl
 | v::r,h=>by
  simp only[Sl]at h;cases hv:AfY v<;>simp only[hv,cond_true,cond_false]at h
  ·cases h
  ·rw[List.map_cons,List.map_cons,Amt h]
   cases v<;>first|rfl|(simp [AfY]at hv)
theorem Asu {v:AV} (h:P1 v=true):E7 σ v=v:=by cases v<;>first|rfl|(simp [P1]at h)
theorem Ajh : ∀ {cs:List AV},cs.all P1=true->cs.map (E7 σ)=cs
 | [],_=>rfl
 | c::r,h=>by
  simp only[List.all_cons,Bool.and_eq_true]at h;rw[List.map_cons,Asu h.1,Ajh h.2]
theorem Aji : ∀ {vs:List AV},vs.all dq=true->vs.map (FG σ)=vs
 | [],_=>rfl
 | v::r,h=>by
  simp only[List.all_cons,Bool.and_eq_true]at h;rw[List.map_cons,Aji h.2];congr 1;cases v with
  | agg cs=>simp only[FG,GD,Ajh (show cs.all P1=true from h.1)]
  | _=>first|rfl|(simp [dq,P1]at h)
theorem Avu {r:AV} (hc:EA r) (hf:YD r):FG σ (Ke r)=Ke r:=by
 cases r with
 | agg cs =>
  simp only[Ke,FG,GD];congr 1;rw[List.map_map];refine List.map_congr_left λ c En => ?_
  have:=hf c En
  cases c<;>first|rfl|exact this.elim
 | _=>first|rfl|exact hf.elim
theorem Avq {c:AV} (h:EA c):E7 σ (P2 c)=P2 c:=by
 cases c<;>first|(simp only[P2,E7];done)|(simp only[EA]at h;done)
theorem Avr {r:AV} (h:EA r) (hd:sW r):FG σ (cL r)=cL r:=by
 cases r with
 | agg cs =>
  simp only[EA]at h;have : ∀ cs:List AV,GK cs->(W6 cs).map (E7 σ)=W6 cs:=by
   intro cs;induction cs with
   | nil=>intro _;simp [W6]
   | cons c l ih =>
    intro h;simp only[GK]at h;rw[W6,List.map_cons,ih h.2,Avq h.1]
  simp only[cL,FG,GD,this cs h]
 | j5=>exact hd.elim
 | fn=>exact hd.elim
 | _=>first|(simp only[cL,P2,FG,GD,E7];done)|(simp only[EA]at h;done)
theorem Avs {r:AV} (h:EA r) (hd:YD r\/sW r):FG σ (fE r)=fE r:=by
 by_cases hf:YD r
 ·rw[Afw hf];exact Avu h hf
 ·rw[Afv hf];exact Avr h (hd.resolve_left hf)
theorem Ali : ∀ {l:List AV},Ab6 l=true->l.map (FG σ)=l
 | [],_=>rfl
 | .int _ _::r,h=>by
  rw[List.map_cons,Ali (l:=r) h];rfl
theorem Aqb {K:AV->Mem->Prop} (hr:RX σ tm M st) {op:K8} (h:XE L tm M c4 K op):HE L tm c4 K op st\/(∃ f xs,op = .call f xs)\/(∃ f xs,op = .j6 f xs)\/(∃ x xs,op = .w5 x xs)\/(∃ f xs,op = .v7 f xs)\/(∃ s f xs,op = .ay s f xs) \/ ∃ s f xs,op = .iy s f xs:=by
 cases op with
 | call f xs=>exact Or.inr (Or.inl ⟨_,_,rfl⟩)
 | j6 f xs=>exact Or.inr (Or.inr (Or.inl ⟨_,_,rfl⟩))
 | w5 x xs=>exact Or.inr (Or.inr (Or.inr (Or.inl ⟨_,_,rfl⟩)))
 | v7 f xs=>exact Or.inr (Or.inr (Or.inr (Or.inr (Or.inl ⟨_,_,rfl⟩))))
 | ay s f xs=>exact Or.inr (Or.inr (Or.inr (Or.inr (Or.inr (Or.inl ⟨_,_,_,rfl⟩)))))
 | iy s f xs=>exact Or.inr (Or.inr (Or.inr (Or.inr (Or.inr (Or.inr ⟨_,_,_,rfl⟩)))))
 | zi s n x v=>exact Or.inl (Aqn hr h)
 | Cq ne x=>exact Or.inl (Aqd hr h)
 | bad=>exact (show False from h).elim
 | nw tb x=>exact Or.inl (Aql hr h)
 | zh p f xs=>exact Or.inl (Aqh hr h)
 | y7 x=>exact Or.inl (Aqj hr h)
 | gj s z=>exact Or.inl (Aqp hr h)
 | pick c a b=>exact Or.inl (Aqk hr h)
 | bin o x y=>exact Or.inl (Ap3 hr h)
 | beq ne x y=>exact Or.inl (Ap2 hr h)
 | un o x=>exact Or.inl (Aqo hr h)
 | conv k x=>exact Or.inl (Ap7 hr h)
 | box s x=>exact Or.inl (Ap4 hr h)
 | alloc s z=>exact Or.inl (ApZ hr h)
 | build z ps=>exact Or.inl (Ap6 hr h)
 | a9 s z ps=>exact Or.inl (Ap5 hr h)
 | m4 x o=>exact Or.inl (Ap9 hr h)
 | ye x o n a=>exact Or.inl (Aqa hr h)
 | ch a z x i=>exact Or.inl (Aqc hr h)
 | ld a n x=>exact Or.inl (Aqe hr h)
 | st n x v=>exact Or.inl (Ah6 hr h)
 | mk s z b ze l c=>exact Or.inl (Aqg hr h)
 | kv z x lo hi=>exact Or.inl (Aqm hr h)
 | ext x i=>exact Or.inl (Ap8 hr h)
 | len x=>exact Or.inl (Aqf hr h)
 | mm m xs=>exact Or.inl (Aqi hr h)
 | app s z b x y=>exact Or.inl (Ap0 hr h)
theorem Ady {K:AV->Mem->Prop} (hr:RX σ tm M st) {op:K8} {d:Option Nat} {g:Option (Nat × Bool)} {l:List AI} {k:List It} {Q:St->Prop} (h:XE L tm M c4 K op) (hg:OL st g=some true)
  (hk : ∀ σ' v v' M' q8,K v M'->v'=FG σ' v->RX σ' tm M' ⟨st.tm,q8⟩->AO L l k ⟨((⟨st.tm,q8⟩:St).dst d v').tm,q8⟩ Q):AO L (⟨d,op,g,c4⟩::l) k st Q:=by
 rcases Aqb hr h with ⟨E,σ',v,M',h1,h2,h3,h4⟩|⟨f,xs,rfl⟩|⟨f,xs,rfl⟩|⟨x,xs,rfl⟩|⟨f,xs,rfl⟩|⟨s,f,xs,rfl⟩|⟨s,f,xs,rfl⟩
 ·rw[Ape hg h1,AdG]
  have:=hk σ' v _ M' _ h2 h3 h4
  cases d<;>exact this
 ·simp only[XE]at h
  obtain ⟨vs,h1,r,h2,h3⟩:=AcW hr h;rw[Ao3 hg h1 h2];have:=hk σ r r M st.own h3 (Ad2 h2.clean).symm hr
  cases d<;>exact this
 ·simp only[XE]at h
  obtain ⟨vs,h1,h2⟩:=Vh hr h;obtain ⟨r,q8,σ',M',h3,h4,h5,h6⟩:=h2 σ st.own hr.sat;rw[<-h1]at h3;rw[Ao5 hg h3];have:=hk σ' r _ M' q8 h6 rfl ⟨λ j=>by rw[h5 j];exact hr.tm j,h4⟩
  cases d<;>exact this
 ·simp only[XE]at h
  split at h
  ·rename_i f g' e1
   obtain ⟨h0,h⟩:=h;obtain ⟨vs,h1,r,h2,h3⟩:=AcW hr h;have e2:=hr.ev e1 (by intro e;cases e);rw[AcK,List.map_nil,h0]at e2;rw[Ao6 hg e2 h1 h2];have:=hk σ r r M st.own h3 (Ad2 h2.clean).symm hr
   cases d<;>exact this
  ·rename_i f g' c cs e1
   obtain ⟨h0,h⟩:=h;obtain ⟨v',h1,h,_,_⟩:=AcP hr.sat h;obtain ⟨vs,h2,r,h3,h4⟩:=AcW hr h;have e2:=hr.ev e1 (by intro e;cases e);rw[AcK,h0]at e2;have h5:(AV.agg (c::cs |>.map (E7 σ))::xs.map st.ev).mapM (JD st.own true)=some (v'::vs):=by
    rw[List.mapM_cons,show JD st.own true (AV.agg (c::cs |>.map (E7 σ)))=some v' from h1,show (xs.map st.ev).mapM (JD st.own true)=some vs from h2];rfl
   rw[Ao4 hg e2 h5 h3];have:=hk σ r r M st.own h4 (Ad2 h3.clean).symm hr
   cases d<;>exact this
  ·rename_i f g' cs e1
   cases ho:Sl cs<;>simp only[ho,cond_true,cond_false]at h;obtain ⟨h0,h⟩:=h;obtain ⟨vs,h1,h2⟩:=Vh hr h;rw[WY]at h2;obtain ⟨r,q8,σ',M',h3,h4,h5,h6⟩:=h2 σ st.own hr.sat;rw[List.map_append,<-h1,Amt (σ:=σ) ho]at h3;have e2:=hr.ev e1 (by intro e;cases e);rw[AcK,h0]at e2;rw[Ao9 hg e2 h3];have:=hk σ' r _ M' q8 h6 rfl ⟨λ j=>by rw[h5 j];exact hr.tm j,h4⟩
   cases d<;>exact this
  ·exact h.elim
 ·simp only[XE]at h
  obtain ⟨vs,h1,h2⟩:=Vh hr h;cases ho:vs.all dq<;>simp only[ho,cond_true,cond_false]at h2;obtain ⟨r,h3,h4,h5⟩:=h2;have e1:xs.map st.ev=vs:=by rw[h1];exact Aji ho
  rw[Ao7 hg (by rw[e1];exact ho) (by rw[e1];exact h3) h4];have:=hk σ (fE r) (fE r) M st.own h5 (Avs h3.clean h4).symm hr
  cases d<;>exact this
 ·simp only[XE]at h
  cases Yk:OM s<;>simp only[Yk,cond_true,cond_false]at h;obtain ⟨vs,h1,z,es,n,h2,rfl,h3⟩:=Anw hr h;obtain ⟨k',g1,g2,g3⟩:=ZU h3;refine Ao8 hg h1 h2 ?_;rw[AdG];have:=hk (JH σ k' λ_=>(s,st.own.k9 s)) _ (.row s (st.own.k9 s) z 0 es.length) _ _ g3 (by simp only[KW,HK]) (hr.rk (q:=s) g1 g2 (.rw z es) trivial rfl (λ_=>Yk))
  cases d<;>exact this
 ·simp only[XE]at h
  obtain ⟨vs,h1,h2⟩:=Vh hr h;split at h2
  ·rename_i key rest
   cases hi:Ab6 rest<;>simp only[hi,cond_true,cond_false]at h2;obtain ⟨cells,nm,kd,n,g1,g2,g3,g4,g5⟩:=h2;have mg:=hr.sat.site _ _ _ g1;have fk:=hr.sat.k8 _ _ _ (MI g1);rw[mg]at fk;simp only[FB.k8,Z5 g2]at fk;have iv:xs.map st.ev = .ptr s (σ key 0).2 0 0::rest:=by
    rw[h1,List.map_cons,MJ,mg,Ali hi]
   have hE:=g4 (σ key 0).2 (st.own s) fk;refine Apa hg (by rw[iv];exact hE) ?_;rw[AdG];have:=hk σ (.int kd n) (.int kd n) _ _ g5 rfl (hr.stq g1 trivial (.bx nm) trivial (λ h=>by cases h))
   simp only[FB.k8,Z5 g3]at this;cases d<;>exact this
  ·exact h2.elim
theorem Auq (hr:RX σ tm M st) {g:Nat} {w:Bool} {b:Bool} (e:tg tm g = .bool b):OL st (some (g,w))=some (b == w):=by
 rcases hr.tm g with h|h
 ·rw[e]at h;cases h
 ·rw[e]at h
  simp only[OL,h,V6]
theorem Aur (hr:RX σ tm M st) {g:Nat} {w:Bool} (e:tg tm g = .j5 []):OL st (some (g,w))=some false:=by
 rcases hr.tm g with h|h
 ·rw[e]at h;cases h
 ·rw[e]at h
  simp only[OL,h,ZP,List.map_nil]
theorem Ahm {key:Nat} : ∀ (tm:Tm) (j:Nat),tg (Qr key tm) j = .any\/tg (Qr key tm) j=tg tm j
 | [],_=>Or.inl rfl
 | (i,v)::r,j=>by
  simp only[Qr];cases hc:rF key v<;>cases hb:Nat.beq j i;all_goals simp only[cond_true,cond_false,tg,hb]
  ·exact Ahm r j
  ·exact Or.inr trivial
  ·exact Ahm r j
  ·exact Or.inl trivial
theorem Aya {v:AV} {K:Tm->Prop} (h:xk v tm K) : ∃ gi,(∀ j,tg gi j = .any\/tg gi j=tg tm j)/\K gi:=by
 unfold xk at h;split at h
 ·rw[xI]at h
  exact ⟨_,λ j=>Ahm _ j,h⟩
 ·exact ⟨_,λ j=>Or.inr rfl,h⟩
theorem Ah7 {k:List It} {Q:Tm->Mem->Prop} : ∀ {l:List AI} {K:Tm->Mem->Prop} {tm:Tm} {M:Mem},XO L l K tm M->(∀ gi M',K gi M'->A0 L k gi M' Q)->AOM L l k tm M Q
 | [],K,tm,M,h,hk=>λ σ st hr=>Apc.2 (hk tm M h σ st hr)
 | o::l,K,tm,M,h,hk=>by
  intro σ st hr;have h:XI L o (XO L l) K tm M:=h;have ih : ∀ gi M',XO L l K gi M'->AOM L l k gi M' Q:=λ gi M' h'=>Ah7 h' hk
  have some_ : ∀ (d:Nat) (op:K8) (g:Option (Nat × Bool)) (c4:List Nat),OL st g=some true->XE L tm M c4 (λ v M=>XO L l K ((d,v)::tm) M) op->AO L (⟨some d,op,g,c4⟩::l) k st (SQ Q):=by
   intro d op g c4 hg hx;refine Ady hr hx hg ?_;intro σ' v v' M' q8 h1 h2 h3;exact ih _ _ h1 σ' _ (h3.put d h2)
  have Pc : ∀ (d:Nat) (u:AV) (op:K8) (c4:List Nat),XE L tm M c4 (λ v M=>xk u tm λ tm=>XO L l K ((d,v)::tm) M) op->AO L (⟨some d,op,none,c4⟩::l) k st (SQ Q):=by
   intro d u op c4 hx;refine Ady hr hx rfl ?_;intro σ' v v' M' q8 h1 h2 h3;obtain ⟨gi,g1,g2⟩:=Aya h1;exact ih _ _ g2 σ' _ ((show RX σ' gi M' ⟨st.tm,q8⟩ from ⟨λ j=>(g1 j).elim Or.inl λ e=>by rw[e];exact h3.tm j,h3.sat⟩).put d h2)
  have none_ : ∀ (op:K8) (g:Option (Nat × Bool)) (c4:List Nat),OL st g=some true->XE L tm M c4 (λ_ M=>XO L l K tm M) op->AO L (⟨none,op,g,c4⟩::l) k st (SQ Q):=by
   intro op g c4 hg hx;refine Ady hr hx hg ?_;intro σ' v v' M' q8 h1 h2 h3;exact ih _ _ h1 σ' _ h3
  have Lt : ∀ (d:Option Nat) (op:K8) (g:Option (Nat × Bool)) (c4:List Nat),OL st g=some false->(match d with|some d=>XO L l K ((d,.j5 [])::tm) M|none=>XO L l K tm M)->AO L (⟨d,op,g,c4⟩::l) k st (SQ Q):=by
   intro d op g c4 hg hx;rw[Apd hg];cases d with
   | none=>exact ih _ _ hx σ _ hr
   | some d=>exact ih _ _ hx σ _ (hr.put d rfl)
  obtain ⟨d,op,g,c4⟩:=o;cases g with
  | none =>
   cases d with
   | none=>exact none_ op none c4 rfl h
   | some d =>
    cases op with
    | app s z b x y=>exact Pc d (ex tm x) (.app s z b x y) c4 h
    | _=>exact some_ d _ none c4 rfl h
  | some gw =>
   obtain ⟨g,w⟩:=gw;have h:(match tg tm g with
    | .bool b=>fB (b == w) λ c=>match c,d with
     | true,some d=>XE L tm M c4 (λ v M=>XO L l K ((d,v)::tm) M) op
     | true,none=>XE L tm M c4 (λ_ M=>XO L l K tm M) op
     | false,some d=>XO L l K ((d,.j5 [])::tm) M
     | false,none=>XO L l K tm M
    | .j5 []=>match d with
     | some d=>XO L l K ((d,.j5 [])::tm) M
     | none=>XO L l K tm M
    | _=>False):=by cases d<;>cases op<;>exact h
   split at h
   ·rename_i b e
    rw[rR]at h;have hg:=Auq hr (w:=w) e;cases hb:(b == w)<;>rw[hb]at h hg
    ·exact Lt d op _ c4 hg (by cases d<;>exact h)
    ·cases d with
     | none=>exact none_ op _ c4 hg h
     | some d=>exact some_ d op _ c4 hg h
   ·rename_i e
    exact Lt d op _ c4 (Aur hr e) (by cases d<;>exact h)
   ·exact h.elim
theorem Adz {Q:Tm->Mem->Prop} : ∀ {n:Nat} {k:List It} {tm:Tm} {M:Mem},XK L Q n k tm M->A0 L k tm M Q
 | 0,k,tm,M,h=>h
 | n+1,[],tm,M,h=>λ σ st hr=>AoX.2 ⟨σ,tm,M,hr,h⟩
 | n+1,it::k,tm,M,h=>by
  have h:XS L Q (XK L Q n) (it::k) tm M:=h;have ih : ∀ k tm M,XK L Q n k tm M->A0 L k tm M Q:=λ k tm M h=>Adz h
  intro σ st hr;cases it with
  | k8 id=>exact AoP.2 (ih _ _ _ h σ st hr)
  | yd ts ss =>
   simp only[XS,At5,xI]at h;cases ss with
   | cons s r=>exact h.elim
   | nil =>
    refine AoT.2 (ih _ _ _ h σ _ ⟨λ j => ?_,hr.sat⟩);rw[Rh,yT,Aih,AdK,Bool.false_or];cases hc:ts.contains j
    ·simp only[Bool.false_eq_true,if_false,cond_false]
     exact hr.tm j
    ·exact Or.inl rfl
  | lp c=>exact h σ st hr
  | code c =>
   cases c with
   | skip=>exact Ao2.2 (ih _ _ _ h σ st hr)
   | ops l d=>exact AoY.2 (Ah7 h (λ gi M' h'=>ih _ _ _ h') σ st hr)
   | dr c ts ss=>exact AoS.2 (ih _ _ _ h σ st hr)
   | scope c=>exact Ao0.2 (ih _ _ _ h σ st hr)
   | seq a b=>exact Ao1.2 (ih _ _ _ h σ st hr)
   | cond x a b =>
    simp only[XS]at h;split at h
    ·rename_i b' e
     rw[rR]at h;rw[AoR (hr.ev e (by intro e;cases e))];cases b'
     ·simpa using ih _ _ _ h σ st hr
     ·simpa using ih _ _ _ h σ st hr
    ·exact h.elim
   | block id c=>exact AoQ.2 (ih _ _ _ h σ st hr)
   | loop c=>exact AoV.2 (Ahy.1 (h σ st hr))
   | exit id =>
    simp only[XS]at h;split at h
    ·rename_i k' e
     exact (AoU e).2 (ih _ _ _ h σ st hr)
    ·exact h.elim
   | ret=>exact AoZ.2 ⟨σ,tm,M,hr,h⟩
theorem Awz (hr:RX σ tm M st) {r:aG} {K:AV->Prop} (h:Tf tm M r K) : ∃ v,NQ st r=some (FG σ v)/\K v/\FG σ v=GD σ v:=by
 cases r with
 | tmp t =>
  simp only[Tf]at h;obtain ⟨h1,h2,h3⟩:=Aky (σ:=σ) h;refine ⟨_,?_,h3,h2⟩;rcases hr.tm t with e|e
  ·exact absurd e h1
  ·simp only[NQ,e]
   cases hv:tg tm t<;>rw[hv]at h h1<;>first|rfl|exact (h:False).elim
 | cell t agg n =>
  simp only[Tf]at h;split at h
  ·rename_i key i j e
   split at h
   ·rename_i s cs hm
    cases hi:Nat.beq i 0<;>simp only[hi,cond_true,cond_false]at h;obtain rfl:=GU.1 hi;split at h
    ·rename_i ds hp
     rw[WY]at h;rcases hr.tm t with e'|e'
     ·rw[e]at e';cases e'
     ·have hs:=hr.sat.site _ _ _ hm
      have fk:=hr.sat.k8 _ _ _ (MI hm);rw[hs]at fk;have flat : ∀ v,cP agg (ds.map (E7 σ))=some (FG σ v)->NQ st (.cell t agg n)=some (FG σ v):=by
       intro v hv;simp only[NQ,e',e,MJ,C2.Ao,C2.get,hs,fk,FB.k8,List.getElem?_cons_zero,Acu hp,hv]
      cases agg
      ·simp only[Bo]at h
       split at h
       ·rename_i c
        obtain ⟨_,h1,h2⟩:=Akz (σ:=σ) h;refine ⟨c,flat c (by rw[h1];rfl),h2,?_⟩;rw[h1];cases c<;>first|rfl|exact (h:False).elim
       ·exact h.elim
      ·exact ⟨.agg ds,flat _ rfl,h,rfl⟩
    ·exact h.elim
   ·exact h.elim
  ·exact h.elim
theorem Agj (hr:RX σ tm M st) : ∀ {l:List aG} {K:List AV->Prop},Acz tm M l K -> ∃ vs,l.mapM (NQ st)=some (vs.map (FG σ))/\K vs/\vs.map (FG σ)=vs.map (GD σ)
 | [],K,h=>⟨[],rfl,h,rfl⟩
 | r::l,K,h=>by
  obtain ⟨v,h1,h2,h3⟩:=Awz hr (show Tf tm M r λ v=>Acz tm M l λ vs=>K (v::vs) from h);obtain ⟨vs,h4,h5,h6⟩:=Agj hr h2;exact ⟨v::vs,by rw[List.mapM_cons,h1,h4];rfl,h5,by rw[List.map_cons,List.map_cons,h3,h6]⟩
theorem Anq (hs:YF σ st.own M) {q:Bool} : ∀ {l:List AV} {K:List AV->Prop},AgI q M l K -> ∃ l',(l.map (FG σ)).mapM (JD st.own q)=some l'/\K l' /\ ∀ v∈l,FG σ v=GD σ v
 | [],K,h=>⟨[],rfl,h,λ v hv=>by cases hv⟩
 | v::r,K,h=>by
  obtain ⟨v',h1,h2,_,h0⟩:=AcP hs (show qR q M [] v λ v'=>AgI q M r λ r'=>K (v'::r') from h);obtain ⟨l',h3,h4,h5⟩:=Anq hs h2;refine ⟨v'::l',?_,h4,λ u hu => ?_⟩
  ·rw[List.map_cons,List.mapM_cons,show JD st.own q (FG σ v)=some v' from h1,h3];rfl
  ·rcases List.mem_cons.1 hu with rfl|hu
   ·exact h0
   ·exact h5 u hu
theorem Axg {own:C2} {q:Bool} {v v':AV} (h:JD own q v=some v'):sL own q v=some v':=by
 cases v with
 | j5 vs=>simp [JD,snap]at h
 | _=>exact h
theorem Avz {f:AV->Option AV} {x y:AV} {r l':List AV} (h:(x::y::r).mapM f=some l') : ∃ a b c,l'=a::b::c:=by
 rw[List.mapM_cons,List.mapM_cons]at h;cases hx:f x with
 | none=>rw[hx]at h;cases h
 | some a =>
  cases hy:f y with
  | none=>rw[hx,hy]at h;cases h
  | some b =>
   cases hr:r.mapM f with
   | none=>rw[hx,hy,hr]at h;cases h
   | some c =>
    rw[hx,hy,hr]at h;exact ⟨a,b,c,(Option.some.inj h).symm⟩
theorem Ah2 {fn:AFn} {r:AV} (hr:RX σ tm M st) (h:pK fn r tm M):zK fn r st:=by
 unfold pK at h;obtain ⟨vs,h1,h2,h3⟩:=Agj hr h;obtain ⟨l',h4,h5,h6⟩:=Anq hr.sat h2;unfold zK;rw[h1,Option.map_some,Option.bind_some];match vs,l',h4,h5 with
 | [],l',h4,h5 =>
  obtain rfl:=Option.some.inj h4;obtain ⟨e,hc⟩:=h5;exact ⟨by rw[<-e];rfl,hc⟩
 | [v],l',h4,h5 =>
  rw[List.map_cons,List.map_nil,List.mapM_cons]at h4;cases hv:JD st.own false (FG σ v) with
  | none=>rw[hv]at h4;cases h4
  | some v' =>
   rw[hv]at h4;obtain rfl:=Option.some.inj h4;obtain ⟨e,hc⟩:=h5;exact ⟨by rw[<-e];exact Axg hv,hc⟩
 | v::u::w,l',h4,h5 =>
  obtain ⟨a,b,c,rfl⟩:=Avz (show List.mapM (JD st.own false) (FG σ v::FG σ u::w.map (FG σ))=some l' from h4);obtain ⟨e,hc⟩:=h5;refine ⟨?_,hc⟩;rw[<-e];have h4:List.mapM (JD st.own false) (FG σ v::FG σ u::w.map (FG σ))=some (a::b::c):=h4;show Option.map AV.j5 (List.mapM (JD st.own false) (FG σ v::FG σ u::w.map (FG σ)))=_;rw[h4];rfl
def rJ:AV->Bool
 | .agg cs=>LX cs
 | v=>Ea v
def cE:List AV->Bool
 | []=>true
 | v::r=>bif rJ v then cE r else false
theorem AbM {v:AV} (h:rJ v=true):FG σ v=v:=by
 cases v with
 | agg cs=>simp only[rJ]at h;simp only[FG,GD,Z5 h]
 | _=>first|rfl|cases h
theorem Tu {σ:OA} : ∀ {vs:List AV} {i:Nat},cE vs=true -> ∀ j,k7 (IQ i vs) j=FG σ (k7 (IQ i vs) j)
 | [],_,_,_=>rfl
 | v::r,i,h,j=>by
  simp only[cE]at h;cases hv:rJ v<;>simp only[hv,cond_true,cond_false]at h
  ·cases h
  ·simp only[AuS,Rj]
   split
   ·exact (AbM hv).symm
   ·exact Tu h j
theorem O9.x {f:Nat} {fn:AFn} {vs:List AV} {r:AV} (hL:L f=some fn) (hp:Nat.beq vs.length fn.gp=true) (hd:cE vs=true) (h:A0 L [.code fn.body] (IQ 0 vs) [] (pK fn r)):O9 L f vs r:=by
 refine O9.fwd hL (GU.1 hp) (AoW (h (λ_ _=>(0,0)) ⟨IQ 0 vs,C2.emp⟩ ⟨λ j=>Or.inr ?_,?_⟩) ?_)
 ·rw[bM];exact Tu hd j
 ·exact ⟨(λ_ _ _ e=>by cases e),(λ_ _ _ e=>by simp [g6,g7]at e),(λ_ _ _ e=>by simp [g6,g7]at e),(λ_ _ _ _ _ _ e=>by simp [g6,g7]at e),(λ_ _ _ e=>by simp [g6,g7]at e)⟩
 ·rintro s ⟨σ,tm,M,hr,hq⟩
  exact Ah2 hr hq
theorem Ev.x {f:Nat} {fn:AFn} {vs:List AV} {r:AV} (hL:L f=some fn) (hp:Nat.beq vs.length fn.gp=true) (hd:cE vs=true) (h:A0 L [.code fn.body] (IQ 0 vs) [] (pK fn r)) (hs:fn.Aq=false:=by rfl):Ev L f vs r:=(O9.x hL hp hd h).ev hL hs
def PM:List (Nat × Nat)->Nat->Nat
 | [],k=>k
 | (a,b)::r,k=>bif Nat.beq k a then b else PM r k
def rk1 (τ:List (Nat × Nat)):AV->AV
 | .row k t z o n => .row (PM τ k) t z o n
 | .ptr k t i j => .ptr (PM τ k) t i j
 | v=>v
def sJ (τ:List (Nat × Nat)):List AV->List AV
 | []=>[]
 | v::r=>rk1 τ v::sJ τ r
def yM (τ:List (Nat × Nat)):AV->AV
 | .agg cs => .agg (sJ τ cs)
 | .fn p f g cs => .fn p f g (sJ τ cs)
 | v=>rk1 τ v
def AcE (τ:List (Nat × Nat)):List AV->List AV
 | []=>[]
 | v::r=>yM τ v::AcE τ r
def rk3 (τ:List (Nat × Nat)):AV->AV
 | .j5 cs => .j5 (AcE τ cs)
 | v=>yM τ v
def AcF (τ:List (Nat × Nat)):List (List AV)->List (List AV)
 | []=>[]
 | v::r=>sJ τ v::AcF τ r
def bI (τ:List (Nat × Nat)):FB->FB
 | .bx cs => .bx (sJ τ cs)
 | .rw z es => .rw z es
 | .bs z es => .bs z (AcF τ es)
 | .mx rows => .mx rows
 | .hx i v rows => .hx i v rows
 | .vw w rows => .vw w rows
variable {τ:List (Nat × Nat)}
theorem Tg : ∀ l:List AV,sJ τ l=l.map (rk1 τ)
 | []=>rfl
 | v::r=>by rw[sJ,Tg r];rfl
theorem AmW : ∀ l:List AV,AcE τ l=l.map (yM τ)
 | []=>rfl
 | v::r=>by rw[AcE,AmW r];rfl
theorem Ac0 (v:AV):E7 (λ k t=>σ (PM τ k) t) v=E7 σ (rk1 τ v):=by cases v<;>rfl
theorem Ag9 (v:AV):GD (λ k t=>σ (PM τ k) t) v=GD σ (yM τ v):=by
 cases v with
 | agg cs=>simp only[GD,yM,Tg,List.map_map];exact congrArg AV.agg (List.map_congr_left λ v _=>Ac0 v)
 | fn p f g cs=>simp only[GD,yM,Tg,List.map_map];exact congrArg (AV.fn p f g) (List.map_congr_left λ v _=>Ac0 v)
 | _=>rfl
theorem Axm (v:AV):FG (λ k t=>σ (PM τ k) t) v=FG σ (rk3 τ v):=by
 cases v with
 | j5 cs=>simp only[FG,rk3,AmW,List.map_map];exact congrArg AV.j5 (List.map_congr_left λ v _=>Ag9 v)
 | agg cs=>exact Ag9 (.agg cs)
 | fn p f g cs=>exact Ag9 (.fn p f g cs)
 | _=>rfl
theorem AmX : ∀ l:List (List AV),AcF τ l=l.map (sJ τ)
 | []=>rfl
 | v::r=>by rw[AcF,AmX r];rfl
theorem Ry {k:Nat} : ∀ (rows:List (Option (Nat × List (List AV)))) (i:Nat),IE (λ k t=>σ (PM τ k) t) k i rows=IE σ (PM τ k) i rows
 | [],i=>rfl
 | none::r,i=>by rw[IE,IE,Ry r]
 | some (z,es)::r,i=>by rw[IE,IE,Ry r]
theorem AqT (c:FB) (k:Nat):c.k8 (λ k t=>σ (PM τ k) t) k=(bI τ c).k8 σ (PM τ k):=by
 cases c with
 | bx cs =>
  simp only[FB.k8,bI,Tg,List.length_map,List.map_map];rw[List.map_congr_left λ v _=>Ac0 v];rfl
 | rw z es=>rfl
 | bs z es =>
  simp only[FB.k8,bI,AmX,List.map_map];congr 1;refine List.map_congr_left λ cs _ => ?_
  simp only[Function.comp,Tg,List.map_map];exact List.map_congr_left λ v _=>Ac0 v
 | mx rows=>simp only[FB.k8,bI,Ry]
 | hx i v rows=>simp only[FB.k8,bI,Ry]
 | vw w rows=>simp only[FB.k8,bI,Ry]
def Gl (k s:Nat) (c:FB):Mem->Mem
 | []=>[(k,s,c)]
 | (j,s',c')::r=>bif Nat.beq k j then (k,s,c)::r else (j,s',c')::Gl k s c r
def Db:Mem->Mem
 | []=>[]
 | (k,s,c)::r=>Gl k s c (Db r)
def xV:Mem->(Mem->Prop)->Prop
 | [],K=>K []
 | (k,s,c)::r,K=>xV r λ r'=>fM (Gl k s c r') K
theorem Acb : ∀ (M:Mem) (K:Mem->Prop),xV M K=K (Db M)
 | [],_=>rfl
 | (k,s,c)::r,K=>by rw[xV,Acb r,qB];rfl
theorem Al3 (k s:Nat) (c:FB) (j:Nat) : ∀ M:Mem,g7 (Gl k s c M) j=bif Nat.beq j k then some (s,c) else g7 M j
 | []=>rfl
 | (i,s',c')::r=>by
  simp only[Gl];cases hk:Nat.beq k i
  ·simp only[cond_false,g7,Al3 k s c j r]
   cases hj:Nat.beq j i<;>cases hjk:Nat.beq j k<;>simp only[cond_true,cond_false];exact absurd ((GU.1 hjk).symm.trans (GU.1 hj)) (OB.1 hk)
  ·obtain rfl:=GU.1 hk
   simp only[cond_true,g7];cases Nat.beq j k<;>rfl
theorem xX (j:Nat) : ∀ M:Mem,g7 (Db M) j=g7 M j
 | []=>rfl
 | (k,s,c)::r=>by simp only[Db,Al3,xX j r,g7]
theorem Acg (k t:Nat):g6 (Db M) k t=g6 M k t:=by simp only[g6,xX]
def Kf (τ:List (Nat × Nat)) (M:Mem):List (Nat × Nat × FB)->List (Option (Nat × FB))
 | []=>[]
 | (k,_,_)::r=>g7 M (PM τ k)::Kf τ M r
def Ki (τ:List (Nat × Nat)):List (Nat × Nat × FB)->List (Option (Nat × FB))
 | []=>[]
 | (_,s,c)::r=>some (s,bI τ c)::Ki τ r
def tmt (tm:Tm):Tm->List AV
 | []=>[]
 | (j,_)::r=>tg tm j::tmt tm r
def tmw (τ:List (Nat × Nat)):Tm->List AV
 | []=>[]
 | (_,v)::r=>rk3 τ v::tmw τ r
def Ack:List Nat->Bool
 | []=>true
 | k::r=>bif aP k r then false else Ack r
def keys (τ:List (Nat × Nat)):Mem->List Nat
 | []=>[]
 | (k,_,_)::r=>PM τ k::keys τ r
theorem Al2 : ∀ {M':Mem} {M:Mem},Kf τ M M'=Ki τ M' -> ∀ k s c,g7 M' k=some (s,c)->g7 M (PM τ k)=some (s,bI τ c)
 | [],_,_,_,_,_,e=>by cases e
 | (i,s',c')::r,M,h,k,s,c,e=>by
  simp only[Kf,Ki,List.cons.injEq]at h;simp only[g7]at e;cases hb:Nat.beq k i<;>simp only[hb,cond_true,cond_false]at e
  ·exact Al2 h.2 k s c e
  ·simp only[Option.some.injEq,Prod.mk.injEq]at e
   obtain ⟨rfl,rfl⟩:=e;rw[GU.1 hb];exact h.1
theorem AfB : ∀ {M:Mem} {k s:Nat} {c:FB},g7 M k=some (s,c)->aP (PM τ k) (keys τ M)=true
 | (i,s',c')::r,k,s,c,e=>by
  simp only[g7]at e;simp only[keys,aP];cases hb:Nat.beq k i<;>simp only[hb,cond_true,cond_false]at e
  ·rw[AfB e];cases Nat.beq (PM τ k) (PM τ i)<;>rfl
  ·rw[GU.1 hb];simp
theorem Ami : ∀ {M:Mem},Ack (keys τ M)=true -> ∀ {k k' s s':Nat} {c c':FB},g7 M k=some (s,c)->g7 M k'=some (s',c')->PM τ k=PM τ k'->k=k'
 | [],_,_,_,_,_,_,_,e,_,_=>by cases e
 | (i,s0,c0)::r,h,k,k',s,s',c,c',e,e',hk=>by
  simp only[keys,Ack]at h;cases hm:aP (PM τ i) (keys τ r)<;>simp only[hm,cond_true,cond_false]at h
  ·simp only[g7]at e e'
   cases hb:Nat.beq k i<;>cases o8:Nat.beq k' i<;>simp only[hb,o8,cond_true,cond_false]at e e'
   ·exact Ami h e e' hk
   ·obtain rfl:=GU.1 o8
    have:=AfB (τ:=τ) e
    rw[hk,hm]at this;cases this
   ·obtain rfl:=GU.1 hb
    have:=AfB (τ:=τ) e'
    rw[<-hk,hm]at this;cases this
   ·exact (GU.1 hb).trans (GU.1 o8).symm
  ·cases h
theorem Aoi : ∀ {gi:Tm} {tm:Tm},tmt tm gi=tmw τ gi -> ∀ j,tg gi j = .any\/tg tm j=rk3 τ (tg gi j)
 | [],_,_,_=>Or.inl rfl
 | (i,v)::r,tm,h,j=>by
  simp only[tmt,tmw,List.cons.injEq]at h;simp only[tg];cases hb:Nat.beq j i<;>simp only[cond_true,cond_false]
  ·exact Aoi h.2 j
  ·rw[GU.1 hb];exact Or.inr h.1
def ef (ts:List Nat) (tm:Tm):Tm:=match ts with
 | []=>tm
 | t::ts=>Gp (mask 0 (t::ts)) tm
def bW (τ:List (Nat × Nat)) (tm:Tm) (M:Mem) (gi:Tm) (M':Mem):Prop :=
 fT (Gp 0 gi) λ l=>xV M' λ m=>tmt tm l=tmw τ l/\Kf τ M m=Ki τ m/\Ack (keys τ m)=true
theorem GF {k:List It} {gi:Tm} {M':Mem} {Q:Tm->Mem->Prop} (τ:List (Nat × Nat)) (he:bW τ tm M gi M') (h:A0 L k gi M' Q):A0 L k tm M Q:=by
 unfold bW at he;rw[xI,Acb]at he;obtain ⟨ht,hm,hn⟩:=he;intro σ st hr;have hg : ∀ k s c,g7 M' k=some (s,c)->g7 M (PM τ k)=some (s,bI τ c):=λ k s c e=>Al2 hm k s c (by rw[xX];exact e)
 have Yd : ∀ k t c,g6 M' k t=some c->g6 M (PM τ k) t=some (bI τ c):=by
  intro k t c e;obtain ⟨s,c0,g1,g2,g3⟩:=XY e;have:=hg k s c0 g1
  cases t with
  | zero=>rw[g2 rfl];exact MI this
  | succ i =>
   obtain ⟨rows,z,es,(rfl|⟨a,v,rfl⟩)|⟨w,rfl⟩,hr,rfl⟩:=g3 i rfl
   ·simp [g6,this,bI,hr]
   ·simp [g6,this,bI,hr]
   ·simp [g6,this,bI,hr]
 refine h (λ k t=>σ (PM τ k) t) st ⟨λ j => ?_,⟨?_,?_,?_,?_,?_⟩⟩
 ·have:=Aoi ht j
  rw[Rh,AdK,cond_false]at this;rcases this with e|e
  ·exact Or.inl e
  ·rcases hr.tm j with e'|e'
   ·left
    rw[e']at e;cases hv:tg gi j<;>rw[hv]at e<;>first|rfl|cases e
   ·right
    rw[e',e,Axm]
 ·intro k s c e;exact hr.sat.site _ _ _ (hg k s c e)
 ·intro k t c e;rw[AqT];exact hr.sat.k8 _ _ _ (Yd k t c e)
 ·intro k t c e;exact hr.sat.old _ _ _ (Yd k t c e)
 ·intro k t k' t' c c' e e' hk
  obtain ⟨q1,q2⟩:=hr.sat.inj _ _ _ _ _ _ (Yd _ _ _ e) (Yd _ _ _ e') hk;obtain ⟨s,c0,g,_⟩:=XY e;obtain ⟨s',c0',g',_⟩:=XY e';exact ⟨Ami hn (by rw[xX];exact g) (by rw[xX];exact g') q1,q2⟩
 ·intro k t c e hw
  exact hr.sat.low _ _ _ (Yd k t c e) (by cases c<;>exact hw)
theorem FV {k:List It} {gi:Tm} {M':Mem} {Q:Tm->Mem->Prop} (τ:List (Nat × Nat)) (h:A0 L k gi M' Q) (he:bW τ tm M gi M':=by (conv=>whnf);exact ⟨rfl,rfl,rfl⟩):A0 L k tm M Q:=GF τ he h
theorem Ahw {k:List It} {Q:Tm->Mem->Prop} (h:A0 L k (Gp 0 tm) (Db M) Q):A0 L k tm M Q:=by
 intro σ st hr;refine h σ st ⟨λ j => ?_,⟨?_,?_,?_,?_,?_⟩⟩
 ·rw[Rh,AdK,cond_false];exact hr.tm j
 ·intro k s c e;rw[xX]at e;exact hr.sat.site _ _ _ e
 ·intro k t c e;rw[Acg]at e;exact hr.sat.k8 _ _ _ e
 ·intro k t c e;rw[Acg]at e;exact hr.sat.old _ _ _ e
 ·intro k t k' t' c c' e e' hk
  rw[Acg]at e e';exact hr.sat.inj _ _ _ _ _ _ e e' hk
 ·intro k t c e hw;rw[Acg]at e;exact hr.sat.low _ _ _ e hw
def Gm (k:Nat) (c:FB):Mem->Mem
 | []=>[]
 | (j,s,c')::r=>bif Nat.beq k j then (j,s,c)::r else (j,s,c')::Gm k c r
theorem Acd {k j s:Nat} {c c':FB} : ∀ {M:Mem},g7 (Gm k c M) j=some (s,c') -> ∃ c0,g7 M j=some (s,c0)/\(c0=c'\/(j=k/\c'=c))
 | [],e=>by cases e
 | (i,s0,c0)::r,e=>by
  simp only[Gm]at e;cases hk:Nat.beq k i<;>simp only[hk,cond_true,cond_false,g7]at e ⊢
  ·cases hj:Nat.beq j i<;>simp only[hj,cond_true,cond_false]at e ⊢
   ·exact Acd e
   ·exact ⟨c',e,Or.inl rfl⟩
  ·cases hj:Nat.beq j i<;>simp only[hj,cond_true,cond_false]at e ⊢
   ·exact ⟨c',e,Or.inl rfl⟩
   ·simp only[Option.some.injEq,Prod.mk.injEq]at e
    obtain ⟨rfl,rfl⟩:=e;exact ⟨c0,rfl,Or.inr ⟨(GU.1 hj).trans (GU.1 hk).symm,rfl⟩⟩
theorem AoL {kk:List It} {Q:Tm->Mem->Prop} (k s:Nat) (e:g7 M k=some (s,.rw 1 [])) (h:A0 L kk tm (Gm k (.mx []) M) Q):A0 L kk tm M Q:=by
 intro σ st hr;have hg : ∀ j t c,g6 (Gm k (.mx []) M) j t=some c -> ∃ c0,g6 M j t=some c0/\c0.k8 σ j=c.k8 σ j:=by
  intro j t c g;obtain ⟨s1,c1,g1,g2,g3⟩:=XY g;obtain ⟨c0,q1,q2⟩:=Acd g1;cases t with
  | zero =>
   rw[g2 rfl];rcases q2 with rfl|⟨rfl,rfl⟩
   ·exact ⟨_,MI q1,rfl⟩
   ·rw[e]at q1
    simp only[Option.some.injEq,Prod.mk.injEq]at q1;obtain ⟨rfl,rfl⟩:=q1;exact ⟨_,MI e,rfl⟩
  | succ i =>
   obtain ⟨rows,z,es,(rfl|⟨a,v,rfl⟩)|⟨w,rfl⟩,Oj,rfl⟩:=g3 i rfl
   ·rcases q2 with rfl|⟨rfl,h0⟩
    ·exact ⟨.rw z es,by simp [g6,q1,Oj],rfl⟩
    ·obtain rfl:rows=[]:=by simpa using h0
     simp at Oj
   ·rcases q2 with rfl|⟨rfl,h0⟩
    ·exact ⟨.rw z es,by simp [g6,q1,Oj],rfl⟩
    ·cases h0
   ·rcases q2 with rfl|⟨rfl,h0⟩
    ·exact ⟨.rw z es,by simp [g6,q1,Oj],rfl⟩
    ·cases h0
 refine h σ st ⟨hr.tm,⟨?_,?_,?_,?_,?_⟩⟩
 ·intro j s' c g
  obtain ⟨c0,q1,_⟩:=Acd g;exact hr.sat.site _ _ _ q1
 ·intro j t c g
  obtain ⟨c0,q1,q2⟩:=hg j t c g;rw[<-q2];exact hr.sat.k8 _ _ _ q1
 ·intro j t c g
  obtain ⟨c0,q1,_⟩:=hg j t c g;exact hr.sat.old _ _ _ q1
 ·intro j t j' t' c c' g g' hj
  obtain ⟨_,q1,_⟩:=hg j t c g;obtain ⟨_,q2,_⟩:=hg j' t' c' g';exact hr.sat.inj _ _ _ _ _ _ q1 q2 hj
 ·intro j t c g hw
  cases t with
  | zero =>
   obtain ⟨s1,c1,g1,g2,g3⟩:=XY g;obtain ⟨c0,q1,q2⟩:=Acd g1;have g2:=g2 rfl;subst g2;rcases q2 with rfl|⟨rfl,rfl⟩
   ·exact hr.sat.low _ _ _ (MI q1) hw
   ·exact hr.sat.low _ _ _ (MI e) rfl
  | succ t =>
   obtain ⟨c0,q1,_⟩:=hg _ _ _ g;exact hr.sat.low _ _ _ q1 (Amf q1)
theorem NJ {k:List It} {c:FX} {Q:Tm->Mem->Prop} (h:A0 L (.code c :: .lp c::k) tm M Q):A0 L (.lp c::k) tm M Q:=λ σ st hr=>Ahy.2 (h σ st hr)
theorem zB {α:Type} {k:List It} {c:FX} {Q:Tm->Mem->Prop} (m:α->Nat) (P:α->Prop) (vs:α->Tm) (Ms:α->Mem) (ts:List Nat) (τ:List (Nat × Nat)) (a:α)
  (he:bW τ tm M (vs a++ef ts tm) (Ms a++M)) (hp:P a)
  (step : ∀ a,P a->(∀ a',m a'<m a->P a'->A0 L (.lp c::k) (vs a'++ef ts tm) (Ms a'++M) Q)->A0 L (.code c :: .lp c::k) (vs a++ef ts tm) (Ms a++M) Q):A0 L (.lp c::k) tm M Q:=by
 have key : ∀ n a,m a<n->P a->A0 L (.lp c::k) (vs a++ef ts tm) (Ms a++M) Q:=by
  intro n;induction n with
  | zero=>intro a h;omega
  | succ n ih =>
   intro a ha hp;exact NJ (step a hp λ a' h1 h2=>ih a' (by omega) h2)
 exact GF τ he (key (m a+1) a (by omega) hp)
end
end Go.c9
namespace Go.c9
section
variable {α:Type} {enc:α->List AV} {l:List α} {L:Lib}
theorem B6 {p q A B:Prop} (h1:p->A) (h2:q->B):B0 p q A B:=⟨h1,h2⟩
theorem EL {p A:Prop} (h1:p) (h2:A):D8 p A:=⟨h1,h2⟩
section
variable {K:AV->Prop} {a b:Int} {k k':IntKind} {op:BinOp}
theorem Abj {v:AV} (h:J0 op k a k' b=some v) (hk:K v):BK op k a k' b K:=⟨v,h,hk⟩
theorem DD (hr : -9223372036854775808<=a+b/\a+b<=9223372036854775807) (hk:K (.int .i64 (a+b))):BK .add .i64 a .i64 b K:=⟨_,by simp only[J0,if_true];rw[IntWalk.i64_in _ hr],hk⟩
theorem F8 (hr : -9223372036854775808<=a-b/\a-b<=9223372036854775807) (hk:K (.int .i64 (a-b))):BK .sub .i64 a .i64 b K:=⟨_,by simp only[J0,if_true];rw[IntWalk.i64_in _ hr],hk⟩
theorem NA (hr : -9223372036854775808<=a*b/\a*b<=9223372036854775807) (hk:K (.int .i64 (a*b))):BK .mul .i64 a .i64 b K:=⟨_,by simp only[J0,if_true];rw[IntWalk.i64_in _ hr],hk⟩
theorem NS (h:0<=b/\b<=62) (hk:1<=pw b->pw b<=4611686018427387904->K (.int .i64 (pw b))):BK .shl .i64 1 k' b K:=⟨_,Aw5 h,hk (O2 b) (Af8 h.2)⟩
theorem nL (hb:0<b) (h1:(0<=a\/a%b=0)->0<=a%b->a%b<b->K (.int .i64 (a%b))) (h2:a<0->a%b≠0->0<=a%b->a%b<b->K (.int .i64 (a%b-b))):BK .rem .i64 a .i64 b K:=by
 have h5:0<=a%b:=Int.emod_nonneg _ (by omega);have h6:a%b<b:=Int.emod_lt_of_pos _ hb;have e:J0 .rem .i64 a .i64 b=some (.int .i64 (a.tmod b)):=by simp only[J0];rw[if_pos ⟨trivial,by omega⟩]
 by_cases hc:0<=a\/a%b=0
 ·rw[Aoj hb,if_pos hc]at e
  exact ⟨_,e,h1 hc h5 h6⟩
 ·rw[Aoj hb,if_neg hc]at e
  exact ⟨_,e,h2 (by omega) (by omega) h5 h6⟩
theorem Z2 (hb:0<b) (ha : -9223372036854775808<=a/\a<=9223372036854775807) (h1:(0<=a\/a%b=0)->K (.int .i64 (a/b))) (h2:a<0->a%b≠0->K (.int .i64 (a/b+1))):BK .quo .i64 a .i64 b K:=by
 have hr:=AsC (m:=b) (by omega) ha;have e:J0 .quo .i64 a .i64 b=some (.int .i64 (IntKind.i64.wrap (a.tdiv b))):=by simp only[J0];rw[if_pos ⟨trivial,by omega⟩]
 by_cases hc:0<=a\/a%b=0
 ·rw[Aof hb,if_pos hc,IntWalk.i64_in _ hr]at e
  exact ⟨_,e,h1 hc⟩
 ·have AWg:a/b<0:=Int.ediv_neg_of_neg_of_pos (by omega) hb
  rw[Aof hb,if_neg hc,IntWalk.i64_in _ (by omega)]at e;exact ⟨_,e,h2 (by omega) (by omega)⟩
theorem ApM (h:0<=b/\b<=63) (hk:K (.int .i64 (a/pw b))):BK .shr .i64 a k' b K:=⟨_,Aw6 h,hk⟩
theorem AhY (hk:K (.int k (k.wrap (a+b)))):BK .add k a k b K:=⟨_,by simp only[J0,if_true],hk⟩
theorem Abp (hk:K (.int k (k.wrap (a-b)))):BK .sub k a k b K:=⟨_,by simp only[J0,if_true],hk⟩
theorem IH.neg (hr : -9223372036854775808 <= -a /\ -a<=9223372036854775807) (hk:K (.int .i64 (-a))):IH .neg .i64 a K:=⟨_,by simp only[sT];rw[show (0:Int)-a = -a by omega,IntWalk.i64_in _ hr],hk⟩
theorem IH.go {op:UnOp} {v:AV} (h:sT op (.int k a)=some v) (hk:K v):IH op k a K:=⟨v,h,hk⟩
end
theorem zD {k:IntKind} {n:Int} {K:Int->Prop} (e:k.wrap n=n) (h:K n):EI k n K:=⟨by rw[e];exact h⟩
theorem HN {n:Int} {K:Int->Prop} (hr:0<=n/\n<=18446744073709551615) (h:K n):EI .u64 n K:=zD (IntWalk.u64_in _ hr) h
theorem sV {n:Int} {K:Int->Prop} (hr : -9223372036854775808<=n/\n<=9223372036854775807) (h:K n):EI .i64 n K:=zD (IntWalk.i64_in _ hr) h
theorem E4 {a:Int} {z:Nat} {K:List AV->Prop} {e:α} (he:l[a.toNat]? = some e) (h0:0<=a) (hz:(enc e).length=z) (h:K (enc e)):DY (l.map enc) a z K:=⟨h0,enc e,by simp [he],hz,h⟩
theorem Adw {a:Int} {z:Nat} {K:List AV->Prop} (h0:0<=a/\a<l.length) (hz : ∀ e,(enc e).length=z) (h : ∀ e,l[a.toNat]? = some e->K (enc e)):DY (l.map enc) a z K:=by
 have he:l[a.toNat]? = some (l[a.toNat]'(by omega)):=zE _;exact E4 he h0.1 (hz _) (h _ he)
theorem bY {n z:Nat} {K:List AV->Prop} (hn:n<l.length) (hz : ∀ e,(enc e).length=z) (h : ∀ e,l[n]? = some e->K (enc e)):DY (l.map enc) (n:Int) z K :=
 Adw ⟨by omega,by omega⟩ hz h
theorem vW {i j n:Nat} {K:List AV->Prop} {f:α->List AV} (hi:i<l.length) (hp : ∀ e,part (enc e) j n=some (f e)) (h : ∀ e,l[i]? = some e->K (f e)):FC (l.map enc) (0+((i:Int)).toNat) j n K:=by
 have he:l[i]? = some l[i]:=zE _;rw[Nat.zero_add,Int.toNat_natCast];exact ⟨enc l[i],f l[i],by simp [he],hp _,h _ he⟩
theorem AhQ {i:Int} {j n:Nat} {K:List AV->Prop} {f:α->List AV} (hi:0<=i/\i<l.length) (hp : ∀ e,part (enc e) j n=some (f e)) (h : ∀ e,l[i.toNat]? = some e->K (f e)):FC (l.map enc) (0+i.toNat) j n K:=by
 have hl:i.toNat<l.length:=by omega
 have he:l[i.toNat]? = some l[i.toNat]:=zE _;rw[Nat.zero_add];exact ⟨enc l[i.toNat],f l[i.toNat],by rw[List.getElem?_map,he];rfl,hp _,h _ he⟩
theorem bZ {i:Nat} {vs:List AV} {K:List (List AV)->Prop} (e:α) (he:vs=enc e) (hz : ∀ x,(enc x).length=vs.length) (hi:i<l.length) (h:K ((l.set i e).map enc)):E1 (l.map enc) (0+((i:Int)).toNat) 0 vs K:=by
 rw[Nat.zero_add,Int.toNat_natCast];refine ⟨enc l[i],by simp [zE hi],by rw[hz];omega,?_⟩;rw[show splice (enc l[i]) 0 vs=vs by simp [splice,<-hz l[i]],he,<-List.map_set];exact h
theorem Adq {i j n:Nat} {K:List AV->Prop} {e:α} {ds:List AV} (he:l[i]? = some e) (hp:part (enc e) j n=some ds) (h:K ds):FC (l.map enc) i j n K:=⟨enc e,ds,by simp [he],hp,h⟩
theorem Axh {cs vs:List AV} (h:cs.length=vs.length):splice cs 0 vs=vs:=by
 simp [splice,<-h]
theorem ApU {i:Nat} {vs:List AV} {K:List (List AV)->Prop} (e:α) (he:vs=enc e) (hz : ∀ x,(enc x).length=vs.length) (hi:i<l.length) (h:K ((l.set i e).map enc)):E1 (l.map enc) i 0 vs K:=by
 refine ⟨enc l[i],by simp [zE hi],by rw[hz];omega,?_⟩;rw[Axh (hz _),he,<-List.map_set];exact h
theorem K9 {a b:Int} {bytes:Nat} {zero:List AV} {K:List (List AV)->Nat->Prop} (x:α) (n:Nat) (hx:zero=enc x) (hn:a=n) (hr:a<=b/\b*bytes<=140737488355328/\b<=9223372036854775807) (h:K ((List.replicate n x).map enc) n):HI a b bytes zero K:=by
 subst hn hx;refine ⟨⟨by omega,hr.1,by simpa [NR] using hr.2.1,hr.2.2⟩,?_⟩;simpa using h
theorem C9 {K:Nat->Prop} (h:K l.length):C8 (l.map enc) K:=⟨by simpa using h⟩
theorem NL {len z bytes:Nat} {vs:List AV} {K:List (List AV)->Nat->Prop} (e:α) (he:vs=enc e) (hl:len=l.length) (hz:vs.length=z) (hr:(l.length+1)*bytes<=140737488355328) (gy:l.length+1<=9223372036854775807) (h:K ((l++[e]).map enc) (l++[e]).length):F9 (l.map enc) len [vs] z bytes K:=by
 subst hl;refine ⟨by simp,by simpa using hz,by simpa [NR] using hr,by simpa using gy,?_⟩;rw[zT (by simp)];simpa [he] using h
theorem Adf {len z bytes:Nat} {l':List α} {K:List (List AV)->Nat->Prop} (hl:len=l.length) (hz : ∀ x,(enc x).length=z) (hr:(l.length+l'.length)*bytes<=140737488355328) (gy:l.length+l'.length<=9223372036854775807) (h:K ((l++l').map enc) (l++l').length):F9 (l.map enc) len (l'.map enc) z bytes K:=by
 subst hl;refine ⟨by simp,by simp [hz],by simpa [NR] using hr,by simpa using gy,?_⟩;rw[zT (by simp)];simpa using h
theorem qX {z bytes:Nat} {vs:List AV} {K:List (List AV)->Nat->Prop} (e:α) (he:vs=enc e) (hz:vs.length=z) (hb:bytes<=140737488355328) (h:K ([e].map enc) 1):IA [vs] z bytes K :=
 ⟨by simpa using hz,by simpa [NR] using hb,by simp,by simpa [he] using h⟩
theorem qW {z bytes:Nat} {K:List (List AV)->Nat->Prop} (hz : ∀ x,(enc x).length=z) (hr:l.length*bytes<=140737488355328) (gy:l.length<=9223372036854775807) (h:K (l.map enc) l.length):IA (l.map enc) z bytes K :=
 ⟨by simp [hz],by simpa [NR] using hr,by simpa using gy,by simpa using h⟩
theorem Abr {off len:Nat} {K:List (List AV)->Prop} (hl:off+len<=l.length) (h:K (((l.drop off).take len).map enc)):GS (l.map enc) off len K :=
 ⟨by simpa using hl,by rw[<-List.map_drop,<-List.map_take];exact h⟩
theorem Sa : ∀ {e:List AV},N0 e=true->gL e=true/\e.map nl=e
 | [],_=>⟨rfl,rfl⟩
 | v::r,h=>by
  have hv:N0 r=true:=by cases v<;>simp only[N0]at h<;>first|cases h|exact h
  obtain ⟨h1,h2⟩:=Sa hv;cases v<;>simp only[N0]at h<;>first|cases h|exact ⟨h1,by rw[List.map_cons,h2];rfl⟩
theorem Amm : ∀ {es:List (List AV)},(∀ e∈es,N0 e=true)->es.map (λ e=>e.map nl)=es
 | [],_=>rfl
 | e::r,h=>by rw[List.map_cons,(Sa (h e List.mem_cons_self)).2,Amm λ x hx=>h x (List.mem_cons_of_mem _ hx)]
theorem zO {es:List (List AV)} {off len:Nat} {K:List (List AV)->Prop} (hl:off+len<=es.length) (hz : ∀ e∈es,N0 e=true) (h:K ((es.drop off).take len)):EF es off len K :=
 ⟨hl,λ e he=>(Sa (hz e he)).1,by rw[Amm λ e he=>hz e (List.mem_of_mem_drop (List.mem_of_mem_take he))];exact h⟩
theorem J2 {off len:Nat} {K:List (List AV)->Prop} (hz : ∀ x,N0 (enc x)=true) (ho:off=0) (hl:len=l.length) (h:K (l.map enc)):EF (l.map enc) off len K:=by
 subst hl ho;refine zO (by simp) (λ e he => ?_) (by rw[List.drop_zero,zT (by simp)];exact h);obtain ⟨x,_,rfl⟩:=List.mem_map.1 he;exact hz x
theorem XL {off len:Nat} {K:List (List AV)->Prop} (hz : ∀ x,N0 (enc x)=true) (hl:off+len<=l.length) (h:K (((l.drop off).take len).map enc)):EF (l.map enc) off len K:=by
 refine zO (by simpa using hl) (λ e he => ?_) (by rw[<-List.map_drop,<-List.map_take];exact h);obtain ⟨x,_,rfl⟩:=List.mem_map.1 he;exact hz x
theorem KY {e:List AV} {K:List (List AV)->Prop} (h:K [e]):GS [e] 0 1 K:=⟨by simp,h⟩
theorem N9 {e:List AV} {K:List (List AV)->Prop} (h0:N0 e=true) (h:K [e]):EF [e] 0 1 K:=zO (by simp) (by simpa using h0) h
theorem Z3 {e e':List AV} {K:List (List AV)->Prop} (h0:N0 e=true) (h1:N0 e'=true) (h:K [e,e']):EF [e,e'] 0 2 K:=zO (by simp) (by simpa using ⟨h0,h1⟩) h
theorem Ah5 {e':List AV} {K:List (List AV)->Prop} (h1:N0 e'=true) (h:K [[.sl false []],e']):EF [[.nil],e'] 0 2 K :=
 ⟨by simp,by simpa using ⟨rfl,(Sa h1).1⟩,by simpa [(Sa h1).2,nl] using h⟩
section
variable {β:Type} {z:Nat} {ll:List (List β)} {en:β->List AV}
abbrev LW (z:Nat) (en:β->List AV) (ll:List (List β)):List (Option (Nat × List (List AV))):=ll.map λ r=>some (z,r.map en)
theorem ApB {i:Nat} {K:Option (Nat × List (List AV))->Prop} (hi:i<ll.length) (h : ∀ r,ll[i]? = some r->K (some (z,r.map en))):IO (LW z en ll) (0+((i:Int)).toNat) K:=by
 have he:ll[i]? = some ll[i]:=zE _;exact ⟨_,by rw[Nat.zero_add,Int.toNat_natCast,List.getElem?_map,he];rfl,h _ he⟩
theorem ApA {i:Int} {K:Option (Nat × List (List AV))->Prop} (hi:0<=i/\i<ll.length) (h : ∀ r,ll[i.toNat]? = some r->K (some (z,r.map en))):IO (LW z en ll) (0+i.toNat) K:=by
 have hl:i.toNat<ll.length:=by omega
 have he:ll[i.toNat]? = some ll[i.toNat]:=zE _;exact ⟨_,by rw[Nat.zero_add,List.getElem?_map,he];rfl,h _ he⟩
theorem AhG {i:Nat} {K:Nat->List (List AV)->Prop} {r:List β} (hr:ll[i]? = some r) (h:K z (r.map en)):H0 (LW z en ll) i K :=
 ⟨z,r.map en,by rw[List.getElem?_map,hr];rfl,h⟩
theorem Apx {i:Nat} {K:Nat->List (List AV)->Prop} {r:List β} (hr:ll[i]? = some r) (h:K z (r.map en)):H0 (LW z en ll) (0+((i:Int)).toNat) K:=by
 rw[Nat.zero_add,Int.toNat_natCast];exact AhG hr h
theorem Apy {i:Int} {K:Nat->List (List AV)->Prop} {r:List β} (hr:ll[i.toNat]? = some r) (h:K z (r.map en)):H0 (LW z en ll) (0+i.toNat) K:=by
 rw[Nat.zero_add];exact AhG hr h
theorem Abd {len bytes:Nat} {r:List β} {K:List (Option (Nat × List (List AV)))->Nat->Prop} (hl:len=ll.length) (hr:(ll.length+1)*bytes<=140737488355328) (gy:ll.length+1<=9223372036854775807) (h:K (LW z en (ll++[r])) (ll++[r]).length):GV (LW z en ll) len (some (z,r.map en)) bytes K:=by
 subst hl;exact ⟨by simp,by simpa [NR] using hr,gy,by simpa [LW] using h⟩
theorem Am4 (q:Bool) : ∀ ll:List (List β),oI q (LW z en ll)=ll.map λ r=>[AV.sl q (r.map en)]
 | []=>rfl
 | r::l=>by simp only[LW,List.map_cons,oI];rw[show oI q (l.map λ r=>some (z,r.map en))=_ from Am4 q l]
theorem pN {q:Bool} {off len:Nat} {K:List (List AV)->Prop} (hz : ∀ x,N0 (en x)=true) (ho:off=0) (hl:len=ll.length) (h:K (ll.map λ r=>[AV.sl q (r.map en)])):IJ q (LW z en ll) off len K:=by
 refine ⟨ho,by simpa using hl,λ z' es hm e he => ?_,by rw[Am4];exact h⟩;obtain ⟨r,_,hr⟩:=List.mem_map.1 hm;simp only[Option.some.injEq,Prod.mk.injEq]at hr;obtain ⟨rfl,rfl⟩:=hr;obtain ⟨x,_,rfl⟩:=List.mem_map.1 he;exact hz x
end
theorem Apr {len:Nat} {a:Int} {K:Nat->Nat->Prop} (h0:0<=a/\a<=len) (h:K a.toNat len):HH (some a) none len K:=⟨a.toNat,len,⟨h0.1,rfl⟩,rfl,by omega,h⟩
theorem Apq {len:Nat} {b:Int} {K:Nat->Nat->Prop} (h0:0<=b/\b<=len) (h:K 0 b.toNat):HH none (some b) len K:=⟨0,b.toNat,rfl,⟨h0.1,h0.2,rfl⟩,by omega,h⟩
theorem Adl {len:Nat} {a b:Int} {K:Nat->Nat->Prop} (h0:0<=a/\a<=b/\b<=len) (h:K a.toNat b.toNat):HH (some a) (some b) len K:=⟨a.toNat,b.toNat,⟨h0.1,rfl⟩,⟨by omega,by omega,rfl⟩,by omega,h⟩
theorem Abs {z:Nat} {lo hi:Option Int} {K:List (List AV)->Prop} (hz : ∀ x,(enc x).length=z) (h:HH lo hi l.length λ a h=>K (((l.take h).drop a).map enc)):H4 z (l.map enc) lo hi K:=by
 refine ⟨by simp [hz],?_⟩;rw[List.length_map];obtain ⟨a,b,h1,h2,h3,h4⟩:=h;refine ⟨a,b,h1,h2,h3,?_⟩;show K _;rw[<-List.map_take,<-List.map_drop];exact h4
theorem dD {z k:Nat} {K:List (List AV)->Prop} (hz : ∀ x,(enc x).length=z) (hk:k<=l.length) (h:K ((l.take k).map enc)):H4 z (l.map enc) none (some (k:Int)) K :=
 Abs hz (Apq (by omega) (by simpa using h))
theorem Ah3 {z k:Nat} {K:List (List AV)->Prop} (hz : ∀ x,(enc x).length=z) (hk:k<=l.length) (h:K ((l.drop k).map enc)):H4 z (l.map enc) (some (k:Int)) none K :=
 Abs hz (Apr (by omega) (by simpa using h))
theorem BF {f:Nat} {vs:List AV} {K:AV->Prop} {r:AV} (h:Ev L f vs r) (hk:K r):BD L f vs K:=⟨r,h,hk⟩
theorem ML {f:Nat} {vs:List AV} {K:AV->Prop} {p:Prop} [Decidable p] (h:Ev L f vs (.bool (decide p))) (h1:p->K (.bool true)) (h2 : ¬ p->K (.bool false)):BD L f vs K:=by
 refine ⟨_,h,?_⟩;by_cases e:p
 ·rw[decide_eq_true e];exact h1 e
 ·rw[decide_eq_false e];exact h2 e
theorem DH {a r:AV} (h:a=r) (hc:EA r):B9 a r:=⟨h,hc⟩
theorem M9 {a r:Bool} (h:a=r):B9 (.bool a) (.bool r):=⟨by rw[h],by simp [EA]⟩
theorem sZ {p:Prop} [Decidable p] (h:p):B9 (.bool true) (.bool (decide p)):=⟨by simp [h],by simp [EA]⟩
theorem qZ {p:Prop} [Decidable p] (h : ¬ p):B9 (.bool false) (.bool (decide p)):=⟨by simp [h],by simp [EA]⟩
theorem IC {k:IntKind} {a b:Int} (h:a=b):B9 (.int k a) (.int k b):=⟨by rw[h],by simp [EA]⟩
theorem rH (h : ∀ x,GK (enc x)) : ∀ l:List α,L3 (l.map enc)
 | []=>by simp [L3]
 | x::r=>by rw[List.map_cons,L3];exact ⟨h x,rH h r⟩
end
theorem Aiw (l:List Int):L3 (l.map IM):=rH (λ_=>by simp [GK,EA]) l
theorem K4 {α:Type} {L:Lib} {k:List It} {cd:FX} {tm:Tm} {M:Mem} {Q:Tm->Mem->Prop} (m:α->Nat) (P:α->Prop) (vs:α->Tm) (Ms:α->Mem) (ts:List Nat) (τ:List (Nat × Nat)) (a:α)
  (he:bW τ tm M (vs a++ef ts tm) (Ms a++M)) (hp:P a)
  (step : ∀ a,P a->(∀ a',m a'<m a->P a'->A0 L (.lp cd::k) (vs a'++ef ts tm) (Ms a'++M) Q)->A0 L (.code cd :: .lp cd::k) (vs a++ef ts tm) (Ms a++M) Q):A0 L (.lp cd::k) tm M Q :=
 zB (α:=α) (λ x=>m x) (λ x=>P x) (λ x=>vs x) (λ x=>Ms x) ts τ a he hp λ a h ih=>step a h λ a' h1 h2=>ih a' h1 h2
theorem zC {α β:Type} {L:Lib} {k:List It} {cd:FX} {tm:Tm} {M:Mem} {Q:Tm->Mem->Prop} (m:α->β->Nat) (P:α->β->Prop) (vs:α->β->Tm) (Ms:α->β->Mem) (ts:List Nat) (τ:List (Nat × Nat)) (a:α) (b:β)
  (he:bW τ tm M (vs a b++ef ts tm) (Ms a b++M)) (hp:P a b)
  (step : ∀ a b,P a b->(∀ a' b',m a' b'<m a b->P a' b'->A0 L (.lp cd::k) (vs a' b'++ef ts tm) (Ms a' b'++M) Q)->A0 L (.code cd :: .lp cd::k) (vs a b++ef ts tm) (Ms a b++M) Q):A0 L (.lp cd::k) tm M Q :=
 zB (α:=α × β) (λ x=>m x.1 x.2) (λ x=>P x.1 x.2) (λ x=>vs x.1 x.2) (λ x=>Ms x.1 x.2) ts τ (a,b) he hp λ⟨a,b⟩ h ih=>step a b h λ a' b' h1 h2=>ih (a',b') h1 h2
theorem AoJ {α β γ:Type} {L:Lib} {k:List It} {cd:FX} {tm:Tm} {M:Mem} {Q:Tm->Mem->Prop} (m:α->β->γ->Nat) (P:α->β->γ->Prop) (vs:α->β->γ->Tm) (Ms:α->β->γ->Mem) (ts:List Nat) (τ:List (Nat × Nat)) (a:α) (b:β) (c:γ)
  (he:bW τ tm M (vs a b c++ef ts tm) (Ms a b c++M)) (hp:P a b c)
  (step : ∀ a b c,P a b c->(∀ a' b' c',m a' b' c'<m a b c->P a' b' c'->A0 L (.lp cd::k) (vs a' b' c'++ef ts tm) (Ms a' b' c'++M) Q)->A0 L (.code cd :: .lp cd::k) (vs a b c++ef ts tm) (Ms a b c++M) Q):A0 L (.lp cd::k) tm M Q :=
 zB (α:=α × β × γ) (λ x=>m x.1 x.2.1 x.2.2) (λ x=>P x.1 x.2.1 x.2.2) (λ x=>vs x.1 x.2.1 x.2.2) (λ x=>Ms x.1 x.2.1 x.2.2) ts τ (a,b,c) he hp λ⟨a,b,c⟩ h ih=>step a b c h λ a' b' c' h1 h2=>ih (a',b',c') h1 h2
theorem Ade {α β γ δ:Type} {L:Lib} {k:List It} {cd:FX} {tm:Tm} {M:Mem} {Q:Tm->Mem->Prop} (m:α->β->γ->δ->Nat) (P:α->β->γ->δ->Prop) (vs:α->β->γ->δ->Tm) (Ms:α->β->γ->δ->Mem) (ts:List Nat) (τ:List (Nat × Nat)) (a:α) (b:β) (c:γ) (d:δ)
  (he:bW τ tm M (vs a b c d++ef ts tm) (Ms a b c d++M)) (hp:P a b c d)
  (step : ∀ a b c d,P a b c d->(∀ a' b' c' d',m a' b' c' d'<m a b c d->P a' b' c' d'->A0 L (.lp cd::k) (vs a' b' c' d'++ef ts tm) (Ms a' b' c' d'++M) Q)->A0 L (.code cd :: .lp cd::k) (vs a b c d++ef ts tm) (Ms a b c d++M) Q):A0 L (.lp cd::k) tm M Q :=
 zB (α:=α × β × γ × δ) (λ x=>m x.1 x.2.1 x.2.2.1 x.2.2.2) (λ x=>P x.1 x.2.1 x.2.2.1 x.2.2.2) (λ x=>vs x.1 x.2.1 x.2.2.1 x.2.2.2) (λ x=>Ms x.1 x.2.1 x.2.2.1 x.2.2.2) ts τ (a,b,c,d) he hp λ⟨a,b,c,d⟩ h ih=>step a b c d h λ a' b' c' d' h1 h2=>ih (a',b',c',d') h1 h2
theorem AoK {α β γ δ ε ζ:Type} {L:Lib} {k:List It} {cd:FX} {tm:Tm} {M:Mem} {Q:Tm->Mem->Prop} (m:α->β->γ->δ->ε->ζ->Nat) (P:α->β->γ->δ->ε->ζ->Prop) (vs:α->β->γ->δ->ε->ζ->Tm) (Ms:α->β->γ->δ->ε->ζ->Mem) (ts:List Nat) (τ:List (Nat × Nat)) (a:α) (b:β) (c:γ) (d:δ) (e:ε) (f:ζ)
  (he:bW τ tm M (vs a b c d e f++ef ts tm) (Ms a b c d e f++M)) (hp:P a b c d e f)
  (step : ∀ a b c d e f,P a b c d e f->(∀ a' b' c' d' e' f',m a' b' c' d' e' f'<m a b c d e f->P a' b' c' d' e' f'->A0 L (.lp cd::k) (vs a' b' c' d' e' f'++ef ts tm) (Ms a' b' c' d' e' f'++M) Q)->A0 L (.code cd :: .lp cd::k) (vs a b c d e f++ef ts tm) (Ms a b c d e f++M) Q):A0 L (.lp cd::k) tm M Q :=
 zB (α:=α × β × γ × δ × ε × ζ) (λ x=>m x.1 x.2.1 x.2.2.1 x.2.2.2.1 x.2.2.2.2.1 x.2.2.2.2.2) (λ x=>P x.1 x.2.1 x.2.2.1 x.2.2.2.1 x.2.2.2.2.1 x.2.2.2.2.2) (λ x=>vs x.1 x.2.1 x.2.2.1 x.2.2.2.1 x.2.2.2.2.1 x.2.2.2.2.2) (λ x=>Ms x.1 x.2.1 x.2.2.1 x.2.2.2.1 x.2.2.2.2.1 x.2.2.2.2.2) ts τ (a,b,c,d,e,f) he hp λ⟨a,b,c,d,e,f⟩ h ih=>step a b c d e f h λ a' b' c' d' e' f' h1 h2=>ih (a',b',c',d',e',f') h1 h2
theorem K7 {α:Type} {L:Lib} {k:List It} {cd:FX} {tm:Tm} {M:Mem} {Q:Tm->Mem->Prop} (m:α->Nat) (P:α->Prop) (vs:α->Tm) (Ms:α->Mem) (a:α)
  (hp:P a)
  (step : ∀ a,P a->(∀ a',m a'<m a->P a'->A0 L (.lp cd::k) (vs a'++ef [] tm) (Ms a'++M) Q)->A0 L (.code cd :: .lp cd::k) (vs a++ef [] tm) (Ms a++M) Q)
  (he:bW [] tm M (vs a++ef [] tm) (Ms a++M):=by (conv=>whnf);exact ⟨rfl,rfl,rfl⟩):A0 L (.lp cd::k) tm M Q :=
 K4 m P vs Ms [] [] a he hp step
theorem MR {α β:Type} {L:Lib} {k:List It} {cd:FX} {tm:Tm} {M:Mem} {Q:Tm->Mem->Prop} (m:α->β->Nat) (P:α->β->Prop) (vs:α->β->Tm) (Ms:α->β->Mem) (a:α) (b:β)
  (hp:P a b)
  (step : ∀ a b,P a b->(∀ a' b',m a' b'<m a b->P a' b'->A0 L (.lp cd::k) (vs a' b'++ef [] tm) (Ms a' b'++M) Q)->A0 L (.code cd :: .lp cd::k) (vs a b++ef [] tm) (Ms a b++M) Q)
  (he:bW [] tm M (vs a b++ef [] tm) (Ms a b++M):=by (conv=>whnf);exact ⟨rfl,rfl,rfl⟩):A0 L (.lp cd::k) tm M Q :=
 zC m P vs Ms [] [] a b he hp step
theorem P6 {α β γ:Type} {L:Lib} {k:List It} {cd:FX} {tm:Tm} {M:Mem} {Q:Tm->Mem->Prop} (m:α->β->γ->Nat) (P:α->β->γ->Prop) (vs:α->β->γ->Tm) (Ms:α->β->γ->Mem) (a:α) (b:β) (c:γ)
  (hp:P a b c)
  (step : ∀ a b c,P a b c->(∀ a' b' c',m a' b' c'<m a b c->P a' b' c'->A0 L (.lp cd::k) (vs a' b' c'++ef [] tm) (Ms a' b' c'++M) Q)->A0 L (.code cd :: .lp cd::k) (vs a b c++ef [] tm) (Ms a b c++M) Q)
  (he:bW [] tm M (vs a b c++ef [] tm) (Ms a b c++M):=by (conv=>whnf);exact ⟨rfl,rfl,rfl⟩):A0 L (.lp cd::k) tm M Q :=
 AoJ m P vs Ms [] [] a b c he hp step
theorem BL {L:Lib} {Q:Tm->Mem->Prop} {c:FX} {k:List It} {tm:Tm} {M:Mem} (h:fT (Gp 0 tm) λ tm=>xV M λ M=>XK L Q 500 (.code c::k) tm M):A0 L (.code c::k) tm M Q:=by
 rw[xI,Acb]at h;exact Ahw (Adz h)
end Go.c9

namespace Go.c9
variable {L:Lib}
def I4 (N:Nat):C4->Bool
 | .t n=>Nat.blt n N
 | .c _=>true
def Ss (N:Nat):K8->Bool
 | .y7 x=>I4 N x
 | .gj _ _=>true
 | .pick c a b=>I4 N c&&(I4 N a&&I4 N b)
 | .bin _ x y=>I4 N x&&I4 N y
 | .beq _ x y=>I4 N x&&I4 N y
 | .un _ x=>I4 N x
 | .conv _ x=>I4 N x
 | .box _ x=>I4 N x
 | .alloc _ _=>true
 | .build _ ps=>ps.all λ p=>I4 N p.2.2
 | .a9 _ _ ps=>ps.all (I4 N)
 | .m4 x _=>I4 N x
 | .ye x _ _ _=>I4 N x
 | .ch _ _ x i=>I4 N x&&I4 N i
 | .ld _ _ x=>I4 N x
 | .st _ x v=>I4 N x&&I4 N v
 | .mk _ _ _ _ l c=>I4 N l&&I4 N c
 | .kv _ x lo hi=>I4 N x&&((lo.all (I4 N))&&(hi.all (I4 N)))
 | .ext x _=>I4 N x
 | .len x=>I4 N x
 | .mm _ xs=>xs.all (I4 N)
 | .app _ _ _ x y=>I4 N x&&I4 N y
 | .call _ xs=>xs.all (I4 N)
 | .j6 _ xs=>xs.all (I4 N)
 | .Cq _ x=>I4 N x
 | .nw _ x=>I4 N x
 | .bad=>true
 | .zh _ _ xs=>xs.all (I4 N)
 | .w5 x xs=>I4 N x&&xs.all (I4 N)
 | .v7 _ xs=>xs.all (I4 N)
 | .ay _ _ xs=>xs.all (I4 N)
 | .iy _ _ xs=>xs.all (I4 N)
 | .zi _ _ x v=>I4 N x&&I4 N v
def zQ (N:Nat) (a:AI):Bool:=(a.dst.all λ d=>Nat.blt d N)&&((a.guard.all λ g=>Nat.blt g.1 N)&&Ss N a.op)
def YH (N:Nat):FX->Bool
 | .skip=>true
 | .ops l _=>l.all (zQ N)
 | .dr c ts _=>YH N c&&ts.all λ t=>Nat.blt t N
 | .scope c=>YH N c
 | .seq a b=>YH N a&&YH N b
 | .cond c a b=>I4 N c&&(YH N a&&YH N b)
 | .block _ c=>YH N c
 | .loop c=>YH N c
 | .exit _=>true
 | .ret=>true
def rX (N:Nat):It->Bool
 | .code c=>YH N c
 | .yd ts _=>ts.all λ t=>Nat.blt t N
 | .k8 _=>true
 | .lp c=>YH N c
structure Gh (N:Nat) (G T T':Tm):Prop where
 lo : ∀ j,j<N->k7 T' j=k7 T j
 hi : ∀ j,N<=j->k7 T' j=k7 G j
variable {N:Nat} {G:Tm}
theorem tJ {a b:Nat}:Nat.blt a b=true↔a<b:=by simp [Nat.blt];omega
theorem Gh.ev {st:St} {T':Tm} {o:C2} (h:Gh N G st.tm T') {x:C4} (hx:I4 N x=true):St.ev ⟨T',o⟩ x=st.ev x:=by
 cases x with
 | t n=>exact h.lo n (tJ.1 hx)
 | c v=>rfl
theorem uI {f g:C4->AV} {xs:List C4} (h : ∀ x,I4 N x=true->f x=g x) (hx:xs.all (I4 N)=true):xs.map f=xs.map g:=by
 apply List.map_congr_left;intro x hm;exact h x (List.all_eq_true.1 hx x hm)
theorem AsE {C:Cl} {c4:List Nat} {ρ ρ':C4->AV} {own:C2} (h : ∀ x,I4 N x=true->ρ' x=ρ x) : ∀ (op:K8),Ss N op=true->k6 C c4 ρ' own op=k6 C c4 ρ own op:=by
 intro op o9;cases op;case build zero ps =>
  have:(ps.map λ p=>(p.1,p.2.1,ρ' p.2.2))=ps.map λ p=>(p.1,p.2.1,ρ p.2.2):=by
   apply List.map_congr_left;intro p hm;rw[h _ (List.all_eq_true.1 o9 p hm)]
  simp only[k6,this]
 case a9 s b7 ps =>
  have:ps.mapM (λ x=>cellsOf (ρ' x))=ps.mapM (λ x=>cellsOf (ρ x)):=by
   have Dk:ps.all (I4 N)=true:=o9;clear o9;induction ps with
   | nil=>rfl
   | cons p r ih =>
    simp only[List.all_cons,Bool.and_eq_true]at Dk;simp only[List.mapM_cons,h _ Dk.1,ih Dk.2]
  simp only[k6,this]
 case mm m xs=>simp only[k6,uI h o9]
 case call f xs=>simp only[k6,uI h o9]
 case j6 f xs=>simp only[k6,uI h o9]
 case zh p f xs =>
  have:xs.mapM (λ x=>QL (ρ' x))=xs.mapM (λ x=>QL (ρ x)):=by
   have Dk:xs.all (I4 N)=true:=o9;clear o9;induction xs with
   | nil=>rfl
   | cons p r ih =>
    simp only[List.all_cons,Bool.and_eq_true]at Dk;simp only[List.mapM_cons,h _ Dk.1,ih Dk.2]
  simp only[k6,this]
 case v7 f xs=>simp only[k6,uI h o9]
 case ay s f xs=>simp only[k6,uI h o9]
 case iy s f xs=>simp only[k6,uI h o9]
 case w5 x xs =>
  simp only[Ss,Bool.and_eq_true]at o9;simp only[k6,uI h o9.2,h _ o9.1]
 case kv b7 x lo hi =>
  simp only[Ss,Bool.and_eq_true]at o9;obtain ⟨h1,h2,h3⟩:=o9;cases lo<;>cases hi<;>simp only[Option.all_some,Option.all_none]at h2 h3<;>simp only[k6,h _ h1,h _,h2,h3]
 all_goals (simp only[Ss,Bool.and_eq_true]at o9;simp only[k6,h _,o9])
theorem Gh.dst {T T':Tm} (h:Gh N G T T') {d:Nat} (hd:d<N) (v:AV):Gh N G (rn T d v) (rn T' d v):=by
 constructor
 ·intro j hj
  rw[Rk,Rk,h.lo j hj]
 ·intro j hj
  rw[Rk,h.hi j hj,if_neg (by omega)]
theorem Gh.zk {T T':Tm} {o:C2} (h:Gh N G T T') {d:Option Nat} (hd:(d.all λ d=>Nat.blt d N)=true) (v:AV):((⟨T',o⟩:St).dst d v).own=((⟨T,o⟩:St).dst d v).own/\Gh N G ((⟨T,o⟩:St).dst d v).tm ((⟨T',o⟩:St).dst d v).tm:=by
 cases d with
 | none=>exact ⟨rfl,h⟩
 | some d=>exact ⟨rfl,h.dst (tJ.1 hd) v⟩
theorem Axn {C:Cl} {a:AI} (ha:zQ N a=true) {T T':Tm} {o:C2} (h:Gh N G T T') {s':St} (hs:JE C a ⟨T',o⟩=some s') : ∃ s,JE C a ⟨T,o⟩=some s/\s'.own=s.own/\Gh N G s.tm s'.tm:=by
 simp only[zQ,Bool.and_eq_true]at ha;obtain ⟨h1,h2,h3⟩:=ha;have hg:OL ⟨T',o⟩ a.guard=OL ⟨T,o⟩ a.guard:=by
  cases hgg:a.guard with
  | none=>rfl
  | some g =>
   rw[hgg]at h2;simp only[OL,h.lo _ (tJ.1 h2)]
 have he:=AsE (C:=C) (c4:=a.c4) (own:=o) (ρ:=St.ev ⟨T,o⟩) (ρ':=St.ev ⟨T',o⟩) (λ x hx=>Gh.ev (st:=⟨T,o⟩) h hx) a.op h3;unfold JE at hs ⊢;rw[hg,he]at hs;cases Py:OL ⟨T,o⟩ a.guard with
 | none=>rw[Py]at hs;cases hs
 | some b =>
  rw[Py]at hs;cases b with
  | false =>
   simp only[Option.some.injEq]at hs ⊢;subst hs;exact ⟨_,rfl,h.zk h1 _⟩
  | true =>
   simp only at hs ⊢;cases hee:k6 C a.c4 (St.ev ⟨T,o⟩) o a.op with
   | none=>rw[hee]at hs;cases hs
   | some e =>
    rw[hee]at hs;simp only[Option.map_some,Option.some.injEq]at hs ⊢;subst hs;refine ⟨_,rfl,?_⟩;cases e with
    | val v=>exact h.zk h1 v
    | new s b v=>exact ⟨rfl,(h.zk (o:=o) h1 _).2⟩
    | Kj s b v=>exact ⟨rfl,(h.zk (o:=o) h1 _).2⟩
    | mn v o'=>exact ⟨rfl,(h.zk (o:=o) h1 _).2⟩
    | cr s x=>exact ⟨rfl,(h.zk (o:=o) h1 _).2⟩
    | Hl s x v=>exact ⟨rfl,(h.zk (o:=o) h1 _).2⟩
theorem AnI {C:Cl} : ∀ {l:List AI},l.all (zQ N)=true -> ∀ {T T':Tm} {o:C2},Gh N G T T' -> ∀ {s':St},JZ C l ⟨T',o⟩=some s' -> ∃ s,JZ C l ⟨T,o⟩=some s/\s'.own=s.own/\Gh N G s.tm s'.tm
 | [],_,T,T',o,h,s',hs=>by
  simp only[JZ,Option.some.injEq]at hs;subst hs;exact ⟨_,rfl,rfl,h⟩
 | a::l,ha,T,T',o,h,s',hs=>by
  simp only[List.all_cons,Bool.and_eq_true]at ha;simp only[JZ]at hs;cases h1:JE C a ⟨T',o⟩ with
  | none=>rw[h1]at hs;cases hs
  | some s1 =>
   rw[h1]at hs;obtain ⟨s2,e1,e2,e3⟩:=Axn ha.1 h h1;obtain ⟨T1,o1⟩:=s1;obtain ⟨T2,o2⟩:=s2;simp only at e2 e3;subst e2;obtain ⟨s3,f1,f2,f3⟩:=AnI ha.2 e3 hs;exact ⟨s3,by simp only[JZ,e1,f1],f2,f3⟩
theorem Vl {id:Nat} : ∀ {k k':List It},k.all (rX N)=true->OH id k=some k'->k'.all (rX N)=true
 | [],_,_,h=>by simp [OH]at h
 | it::k,k',hk,h=>by
  simp only[List.all_cons,Bool.and_eq_true]at hk;cases it with
  | k8 i =>
   simp only[OH]at h;split at h
   ·cases h;exact hk.2
   ·exact Vl hk.2 h
  | code c=>simp only[OH]at h;exact Vl hk.2 h
  | yd a b=>simp only[OH]at h;exact Vl hk.2 h
  | lp c=>simp only[OH]at h;exact Vl hk.2 h
theorem ZJ {C:Cl} : ∀ (n:Nat) {k:List It},k.all (rX N)=true -> ∀ {T T':Tm} {o:C2},Gh N G T T' -> ∀ {s':St},run C n k ⟨T',o⟩=some s' -> ∃ s,run C n k ⟨T,o⟩=some s/\s'.own=s.own/\Gh N G s.tm s'.tm
 | 0,k,_,T,T',o,_,s',hs=>by simp [run]at hs
 | n+1,[],_,T,T',o,h,s',hs=>by
  simp only[run,Option.some.injEq]at hs ⊢;subst hs;exact ⟨_,rfl,rfl,h⟩
 | n+1,.k8 _::k,hk,T,T',o,h,s',hs=>by
  simp only[List.all_cons,Bool.and_eq_true]at hk;simp only[run]at hs ⊢;exact ZJ n hk.2 h hs
 | n+1,.yd ts ss::k,hk,T,T',o,h,s',hs=>by
  simp only[List.all_cons,Bool.and_eq_true]at hk;simp only[run]at hs ⊢;refine ZJ n hk.2 ⟨λ j hj => ?_,λ j hj => ?_⟩ hs
  ·rw[yT,yT,h.lo j hj]
  ·rw[yT,h.hi j hj,if_neg]
   intro hc;have:=List.all_eq_true.1 hk.1 j (by simpa using hc)
   have:=tJ.1 this
   omega
 | n+1,.lp c::k,hk,T,T',o,h,s',hs=>by
  simp only[run]at hs ⊢;have qi:=hk;simp only[List.all_cons,Bool.and_eq_true]at hk;exact ZJ n (by simp only[List.all_cons,Bool.and_eq_true];exact ⟨hk.1,hk.1,hk.2⟩) h hs
 | n+1,.code c::k,hk,T,T',o,h,s',hs=>by
  simp only[List.all_cons,Bool.and_eq_true]at hk;obtain ⟨hc,hk⟩:=hk;cases c with
  | skip=>simp only[run]at hs ⊢;exact ZJ n hk h hs
  | ops l d =>
   simp only[run]at hs ⊢;cases h1:JZ C l ⟨T',o⟩ with
   | none=>rw[h1]at hs;cases hs
   | some s1 =>
    rw[h1]at hs;obtain ⟨s2,e1,e2,e3⟩:=AnI (show l.all (zQ N)=true from hc) h h1;obtain ⟨T1,o1⟩:=s1;obtain ⟨T2,o2⟩:=s2;simp only at e2 e3;subst e2;rw[e1];exact ZJ n hk e3 hs
  | dr c ts ss =>
   simp only[run]at hs ⊢;simp only[rX,YH,Bool.and_eq_true]at hc;exact ZJ n (by simp only[List.all_cons,Bool.and_eq_true];exact ⟨hc.1,hc.2,hk⟩) h hs
  | scope c =>
   simp only[run]at hs ⊢;exact ZJ n (by simp only[List.all_cons,Bool.and_eq_true];exact ⟨hc,hk⟩) h hs
  | seq a b =>
   simp only[run]at hs ⊢;simp only[rX,YH,Bool.and_eq_true]at hc;exact ZJ n (by simp only[List.all_cons,Bool.and_eq_true];exact ⟨hc.1,hc.2,hk⟩) h hs
  | cond x a b =>
   simp only[rX,YH,Bool.and_eq_true]at hc;simp only[run,Gh.ev (st:=⟨T,o⟩) h hc.1]at hs ⊢;cases hx:St.ev ⟨T,o⟩ x<;>rw[hx]at hs<;>try (simp at hs;done)
   rename_i q;cases q
   ·exact ZJ n (by simp only[List.all_cons,Bool.and_eq_true];exact ⟨hc.2.2,hk⟩) h hs
   ·exact ZJ n (by simp only[List.all_cons,Bool.and_eq_true];exact ⟨hc.2.1,hk⟩) h hs
  | block id c =>
   simp only[run]at hs ⊢;exact ZJ n (by simp only[List.all_cons,Bool.and_eq_true];exact ⟨hc,rfl,hk⟩) h hs
  | loop c =>
   simp only[run]at hs ⊢;exact ZJ n (by simp only[List.all_cons,Bool.and_eq_true];exact ⟨hc,hc,hk⟩) h hs
  | exit id =>
   simp only[run]at hs ⊢;cases he:OH id k with
   | none=>rw[he]at hs;cases hs
   | some k' =>
    rw[he]at hs;exact ZJ n (Vl hk he) h hs
  | ret =>
   simp only[run,Option.some.injEq]at hs ⊢;subst hs;exact ⟨_,rfl,rfl,h⟩
def P5 (N:Nat):Tm->Tm
 | []=>[]
 | (i,v)::r=>(N+i,v)::P5 N r
def gh (N:Nat):Tm->Tm
 | []=>[]
 | (i,v)::r=>bif Nat.ble N i then (Nat.sub i N,v)::gh N r else gh N r
theorem Ahp (N j:Nat) : ∀ T:Tm,k7 (P5 N T) (N+j)=k7 T j
 | []=>rfl
 | (i,v)::r=>by
  have ih:=Ahp N j r;simp only[P5,k7,ih];by_cases h:j=i
  ·simp [h]
  ·rw[if_neg h,if_neg (by omega)]
theorem Ahq {N j:Nat} (hj:j<N) : ∀ T:Tm,k7 (P5 N T) j = .any
 | []=>rfl
 | (i,v)::r=>by
  simp only[P5,k7,Ahq hj r];rw[if_neg (by omega)]
theorem Ahn (N j:Nat) : ∀ T:Tm,k7 (gh N T) j=k7 T (N+j)
 | []=>rfl
 | (i,v)::r=>by
  have ih:=Ahn N j r;simp only[gh];cases h:Nat.ble N i
  ·have h1 : ¬ N<=i:=λ e=>by rw[Nat.ble_eq_true_of_le e]at h;cases h
   simp only[cond,k7,ih];rw[if_neg (by omega)]
  ·have h1:=Nat.le_of_ble_eq_true h
   simp only[cond,k7,ih];by_cases h2:j=i-N
   ·rw[if_pos (show j=Nat.sub i N from h2),if_pos (by omega)]
   ·rw[if_neg (show ¬ j=Nat.sub i N from h2),if_neg (by omega)]
def fG (f:AV->AV):Tm->Tm
 | []=>[]
 | (i,v)::r=>(i,f v)::fG f r
theorem bP {f:AV->AV} (hf:f .any = .any) (j:Nat) : ∀ T:Tm,k7 (fG f T) j=f (k7 T j)
 | []=>hf.symm
 | (i,v)::r=>by
  simp only[fG,k7,bP hf j r];by_cases h:j=i<;>simp [h]
theorem Afm (f:AV->AV) : ∀ (i:Nat) (vs:List AV),IQ i (vs.map f)=fG f (IQ i vs)
 | _,[]=>rfl
 | i,v::r=>by simp only[List.map_cons,IQ,fG,Afm f (i+1) r]
theorem Ri (j:Nat) (b:Tm) : ∀ a:Tm,((a.any λ p=>p.1 == j)=true/\k7 (a++b) j=k7 a j)\/((a.any λ p=>p.1 == j)=false/\k7 (a++b) j=k7 b j)
 | []=>Or.inr ⟨rfl,rfl⟩
 | (i,v)::r=>by
  by_cases h:j=i
  ·subst h
   exact Or.inl (by simp [k7])
  ·have h' : ¬ i=j:=λ e=>h e.symm
   rcases Ri j b r with ⟨h1,h2⟩|⟨h1,h2⟩
   ·exact Or.inl ⟨by rw[List.any_cons,h1,Bool.or_true],by simp only[List.cons_append,k7,if_neg h,h2]⟩
   ·exact Or.inr ⟨by rw[List.any_cons,h1,Bool.or_false];simpa using h',by simp only[List.cons_append,k7,if_neg h,h2]⟩
theorem Afl (j:Nat) : ∀ (i:Nat) (vs:List AV),((IQ i vs).any λ p=>p.1 == j)=true->j<i+vs.length
 | _,[],h=>by simp [IQ]at h
 | i,v::r,h=>by
  simp only[IQ,List.any_cons,Bool.or_eq_true,beq_iff_eq]at h;rcases h with h|h
  ·simp;omega
  ·have:=Afl j (i+1) r h
   simp;omega
theorem Aho (j:Nat) : ∀ (i:Nat) (vs:List AV),((IQ i vs).any λ p=>p.1 == j)=false->k7 (IQ i vs) j = .any
 | _,[],_=>rfl
 | i,v::r,h=>by
  simp only[IQ,List.any_cons,Bool.or_eq_false_iff,beq_eq_false_iff_ne]at h;simp only[IQ,k7];rw[if_neg λ e=>h.1 e.symm,Aho j (i+1) r h.2]
theorem cY (σ:OA):FG σ .any = .any:=rfl
def sH (tm:Tm):List aG->Option (List AV)
 | []=>some []
 | .tmp t::r=>match ZH (tg tm t),sH tm r with
  | some v,some vs=>some (v::vs)
  | _,_=>none
 | .cell _ _ _::_=>none
def Te (N:Nat):List aG->Bool
 | []=>true
 | .tmp t::r=>Nat.blt t N&&Te N r
 | .cell _ _ _::_=>false
def Ah1 (N:Nat) (fn:AFn) (tm:Tm) (K:AV->Mem->Prop) (gi:Tm) (M':Mem):Prop:=gh N gi=tm /\ ∃ rs,sH gi fn.res=some rs/\K (X3 rs) M'
theorem Awy {σ:OA} {v u:AV} (h:ZH v=some u):u=v/\FG σ v=GD σ v/\ZH (FG σ v)=some (FG σ v):=by
 cases v<;>simp [ZH]at h<;>subst h<;>exact ⟨rfl,rfl,rfl⟩
theorem Agi {σ:OA} {gi:Tm} {M:Mem} {s s':St} (hr:RX σ gi M s') (yn : ∀ j,j<N->k7 s'.tm j=k7 s.tm j) : ∀ {res:List aG} {rs:List AV},Te N res=true->sH gi res=some rs->res.mapM (NQ s)=some (rs.map (GD σ)) /\ ∀ v∈rs,FG σ v=GD σ v
 | [],rs,_,h=>by
  simp only[sH,Option.some.injEq]at h;subst h;exact ⟨rfl,by simp⟩
 | .cell _ _ _::_,_,_,h=>by simp [sH]at h
 | .tmp t::r,rs,hl,h=>by
  simp only[Te,Bool.and_eq_true]at hl;simp only[sH]at h;cases h1:ZH (tg gi t) with
  | none=>rw[h1]at h;simp at h
  | some v =>
   cases h2:sH gi r with
   | none=>rw[h1,h2]at h;simp at h
   | some vs =>
    rw[h1,h2]at h;simp only[Option.some.injEq]at h;subst h;obtain ⟨i1,i2⟩:=Agi hr yn hl.2 h2;obtain ⟨rfl,j2,j3⟩:=Awy (σ:=σ) h1;have:k7 s.tm t=FG σ (tg gi t):=by
     rcases hr.tm t with e|e
     ·rw[e]at h1;cases h1
     ·rw[<-yn t (tJ.1 hl.1),e]
    refine ⟨?_,?_⟩
    ·rw[j2]at j3 this
     simp only[List.mapM_cons,NQ,this,j3,i1,List.map_cons];rfl
    ·intro v hv
     simp only[List.mem_cons]at hv;rcases hv with rfl|hv
     ·exact j2
     ·exact i2 v hv
theorem AmU {σ:OA} {rs:List AV} (h : ∀ v∈rs,FG σ v=GD σ v):X3 (rs.map (GD σ))=FG σ (X3 rs):=by
 match rs,h with
 | [],_=>rfl
 | [v],h=>exact (h v (by simp)).symm
 | _::_::_,_=>rfl
theorem P8 {f:Nat} {fn:AFn} {vs:List AV} {tm:Tm} {M:Mem} {K:AV->Mem->Prop} (N:Nat) (hL:L f=some fn) (hp:Nat.beq vs.length fn.gp=true) (hN:(Nat.ble fn.gp N&&(YH N fn.body&&Te N fn.res))=true)
  (h:A0 L [.code fn.body] (IQ 0 vs++P5 N tm) M (Ah1 N fn tm K)):EU L f vs tm M K:=by
 intro σ own hs;simp only[Bool.and_eq_true]at hN;obtain ⟨n1,n2,n3⟩:=hN;have n1:=Nat.le_of_ble_eq_true n1;have hp:vs.length=fn.gp:=Nat.eq_of_beq_eq_true hp;have Za:RX σ (IQ 0 vs++P5 N tm) M ⟨fG (FG σ) (IQ 0 vs++P5 N tm),own⟩:=⟨λ j=>Or.inr (by rw[bM];exact bP (cY σ) j _),hs⟩;obtain ⟨n,c,s',hr,σ',gi,M',hR,hg,rs,Yz,hk⟩:=h σ _ Za;have hgh:Gh N (fG (FG σ) (P5 N tm)) (IQ 0 (vs.map (FG σ))) (fG (FG σ) (IQ 0 vs++P5 N tm)):=by
  constructor
  ·intro j hj
   rw[Afm,bP (cY σ),bP (cY σ)];rcases Ri j (P5 N tm) (IQ 0 vs) with ⟨_,e⟩|⟨hn,e⟩
   ·rw[e]
   ·rw[e,Ahq hj,Aho j 0 vs hn]
  ·intro j hj
   rw[bP (cY σ),bP (cY σ)];rcases Ri j (P5 N tm) (IQ 0 vs) with ⟨hn,e⟩|⟨_,e⟩
   ·have:=Afl j 0 vs hn
    omega
   ·rw[e]
 obtain ⟨s,r1,r2,r3⟩:=ZJ n (by simp [rX,n2]) hgh hr;obtain ⟨i1,i2⟩:=Agi (s:=s) hR r3.lo n3 Yz;refine ⟨X3 rs,s.own,σ',M',P9.intro hL (by simpa using hp) ⟨n,c,s,r1,?_,rfl⟩,?_,?_,hk⟩
 ·rw[i1,Option.map_some,AmU i2]
 ·rw[<-r2];exact hR.sat
 ·intro j
  have e1:tg tm j=tg gi (N+j):=by rw[bM,bM,<-hg,Ahn]
  rcases hR.tm (N+j) with e|e
  ·rw[e1,e];rfl
  ·rw[e1,<-e,r3.hi (N+j) (by omega),bP (cY σ),Ahp,<-bM,e1]
theorem Z4 {α:Type} {enc:α->List AV} {l:List α} {i:Nat} {vs:List AV} {K:List (List AV)->Prop} (n:Nat) (e:α) (hn:i=n) (he:vs=enc e) (hz : ∀ x,(enc x).length=vs.length) (hi:n<l.length) (h:K ((l.set n e).map enc)):E1 (l.map enc) i 0 vs K:=by
 subst hn;exact ApU e he hz hi h
theorem QX {x:Int} {len:Nat} {K:Nat->Nat->Prop} (h:Nat) (hx:x=h) (hl:h<=len) (hk:K 0 h):HH none (some x) len K:=⟨0,h,rfl,⟨by omega,by omega,by omega⟩,by omega,hk⟩
theorem Api {x:Int} {len:Nat} {K:Nat->Nat->Prop} (a:Nat) (hx:x=a) (hl:a<=len) (hk:K a len):HH (some x) none len K:=⟨a,len,⟨by omega,by omega⟩,rfl,by omega,hk⟩
end Go.c9

namespace Go.c9
section
variable {K:AV->Prop} {a b:Nat} {k':IntKind}
theorem wrap_u32 (n:Nat):IntKind.u32.wrap (n:Int)=((n%4294967296:Nat):Int):=by rw[IntKind.wrap_u32];omega
theorem Ax9 (n:Nat):IntKind.u64.wrap (n:Int)=((n%18446744073709551616:Nat):Int):=by
 simp [IntKind.wrap,IntKind.bits,IntKind.signed]
theorem PR (h:a+b<=18446744073709551615) (hk:K (.int .u64 ((a+b:Nat):Int))):BK .add .u64 (a:Int) .u64 (b:Int) K :=
 ⟨_,by simp only[J0,if_true];rw[IntWalk.u64_in _ (by omega)],by simpa using hk⟩
theorem ZX (h:b<=a) (h2:a<=18446744073709551615) (hk:K (.int .u64 ((a-b:Nat):Int))):BK .sub .u64 (a:Int) .u64 (b:Int) K :=
 ⟨_,by simp only[J0,if_true];rw[IntWalk.u64_in _ (by omega)],by rw[show (a:Int)-b=((a-b:Nat):Int) by omega];exact hk⟩
theorem Abo (h:b<=18446744073709551616) (hk:K (.int .u64 ((MD a b:Nat):Int))):BK .sub .u64 (a:Int) .u64 (b:Int) K :=
 Abj (v := .int .u64 (IntKind.u64.wrap ((a:Int)-b))) (by simp only[J0,if_true]) (by
  have e:IntKind.u64.wrap ((a:Int)-b)=((MD a b:Nat):Int):=by
   rw[vI];simp only[IntKind.wrap,IntKind.bits,IntKind.signed];simp;omega
  rw[e];exact hk)
theorem pB (h:a*b<=18446744073709551615) (hk:K (.int .u64 ((a*b:Nat):Int))):BK .mul .u64 (a:Int) .u64 (b:Int) K :=
 ⟨_,by simp only[J0,if_true];rw[<-Int.natCast_mul,IntWalk.u64_in _ (by omega)],hk⟩
theorem Abm (h:0<b) (h2:a<=18446744073709551615) (hk:K (.int .u64 ((a/b:Nat):Int))):BK .quo .u64 (a:Int) .u64 (b:Int) K:=by
 refine ⟨_,by simp only[J0];rw[if_pos ⟨trivial,by omega⟩],?_⟩;rw[IntWalk.u64_quo _ _ ⟨by omega,by omega,by omega⟩,<-Int.natCast_ediv];exact hk
theorem zJ (h:0<b) (hk:K (.int .u64 ((a%b:Nat):Int))):BK .rem .u64 (a:Int) .u64 (b:Int) K:=by
 refine ⟨_,by simp only[J0];rw[if_pos ⟨trivial,by omega⟩],?_⟩;rw[IntWalk.rem_in _ _ (by omega),<-Int.natCast_emod];exact hk
theorem Aw4 {k:IntKind} {n:Nat} (hn:n<=k.bits):J0 .shl k (a:Int) k' (n:Int)=some (.int k (k.wrap ((a*2^n:Nat):Int))):=by
 simp only[J0];rw[if_neg (by omega),Int.toNat_natCast,Nat.min_eq_left hn];simp
theorem Aw7 {k:IntKind} {n:Nat} (hn:n<=k.bits):J0 .shr k (a:Int) k' (n:Int)=some (.int k ((a/2^n:Nat):Int)):=by
 simp only[J0];rw[if_neg (by omega),Int.toNat_natCast,Nat.min_eq_left hn,Int.fdiv_eq_ediv_of_nonneg _ (Int.le_of_lt (Int.pow_pos (by omega)))];simp
theorem Adu {k:IntKind} {n:Nat} (hn:n<=k.bits) (hk:K (.int k (k.wrap ((a*2^n:Nat):Int)))):BK .shl k (a:Int) k' (n:Int) K:=⟨_,Aw4 hn,hk⟩
theorem pI {k:IntKind} {n:Nat} (hn:n<=k.bits) (hk:K (.int k ((a/2^n:Nat):Int))):BK .shr k (a:Int) k' (n:Int) K:=⟨_,Aw7 hn,hk⟩
theorem nJ (h:a<=4294967295) (hk:K (.int .u64 ((a*4294967296:Nat):Int))):BK .shl .u64 (a:Int) k' 32 K:=by
 refine Adu (n:=32) (by decide) ?_;rw[Ax9,show a*2^32%18446744073709551616=a*4294967296 by omega];exact hk
theorem N6 (hk:K (.int .u64 ((a/4294967296:Nat):Int))):BK .shr .u64 (a:Int) k' 32 K:=pI (n:=32) (by decide) hk
theorem Abn (hk:K (.int .u64 ((a/9223372036854775808:Nat):Int))):BK .shr .u64 (a:Int) k' 63 K:=pI (n:=63) (by decide) hk
theorem ApI (hk:K (.int .u64 ((a/4:Nat):Int))):BK .shr .u64 (a:Int) k' 2 K:=pI (n:=2) (by decide) hk
theorem ApH (hk:K (.int .u32 ((a/65536:Nat):Int))):BK .shr .u32 (a:Int) k' 16 K:=pI (n:=16) (by decide) hk
theorem ApJ (hk:K (.int .u32 ((a/256:Nat):Int))):BK .shr .u32 (a:Int) k' 8 K:=pI (n:=8) (by decide) hk
theorem ApG (hk:K (.int .u32 ((a/2:Nat):Int))):BK .shr .u32 (a:Int) k' 1 K:=pI (n:=1) (by decide) hk
theorem AfW (w n:Nat):(BitVec.ofInt w (n:Int)).toNat=n%2^w:=by rw[BitVec.toNat_ofInt];omega
theorem Av5 {n x y:Nat} (hx:x%2^n=0) (hy:y<2^n):x ||| y=x+y:=by
 have e:x=2^n*(x/2^n):=by have:=Nat.mod_add_div x (2^n);omega
 rw[e,<-Nat.two_pow_add_eq_or_of_lt hy]
theorem Adt {k:IntKind} (n:Nat) (hx:a%2^n=0) (hy:b<2^n) (h:a+b<2^k.bits) (hw:k.wrap ((a+b:Nat):Int)=((a+b:Nat):Int)) (hk:K (.int k ((a+b:Nat):Int))):BK .or k (a:Int) k (b:Int) K:=by
 refine Abj (v := .int k (k.wrap (BitVec.ofInt k.bits (a:Int) ||| BitVec.ofInt k.bits (b:Int)).toNat)) (by simp only[J0,if_true]) ?_;rw[BitVec.toNat_or,AfW,AfW,Nat.mod_eq_of_lt (by omega),Nat.mod_eq_of_lt (by omega),Av5 hx hy,hw];exact hk
theorem pC (h:a%4294967296=0/\b<4294967296/\a+b<=18446744073709551615) (hk:K (.int .u64 ((a+b:Nat):Int))):BK .or .u64 (a:Int) .u64 (b:Int) K :=
 Adt 32 h.1 h.2.1 (show a+b<18446744073709551616 by omega) (IntWalk.u64_in _ (by omega)) hk
theorem AhT (h:a<=18446744073709551615) (hk:K (.int .u64 ((a%4294967296:Nat):Int))):BK .and .u64 (a:Int) .u64 4294967295 K:=by
 refine Abj (v := .int .u64 (IntKind.u64.wrap (BitVec.ofInt IntKind.u64.bits (a:Int) &&& BitVec.ofInt IntKind.u64.bits 4294967295).toNat)) (by simp only[J0,if_true]) ?_;rw[BitVec.toNat_and,AfW,show (BitVec.ofInt IntKind.u64.bits 4294967295).toNat=2^32-1 by decide,Nat.and_two_pow_sub_one_eq_mod,show a%2^IntKind.u64.bits=a from Nat.mod_eq_of_lt (show a<18446744073709551616 by omega),IntWalk.u64_in _ (by omega)];exact hk
theorem AhS (hk:K (.int .u32 (((a+b)%4294967296:Nat):Int))):BK .add .u32 (a:Int) .u32 (b:Int) K :=
 Abj (v := .int .u32 (IntKind.u32.wrap ((a:Int)+b))) (by simp only[J0,if_true]) (by rw[<-Int.natCast_add,wrap_u32];exact hk)
end
section
variable {K:Int->Prop} {n:Nat}
theorem AhC (h:n<=18446744073709551615) (hk:K (n:Int)):EI .u64 (n:Int) K:=zD (IntWalk.u64_in _ (by omega)) hk
theorem L5 (h:n<=4294967295) (hk:K (n:Int)):EI .u32 (n:Int) K:=zD (IntWalk.u32_in _ (by omega)) hk
theorem O7 (hk:K ((n%4294967296:Nat):Int)):EI .u32 (n:Int) K:=⟨by rw[wrap_u32];exact hk⟩
theorem Apv (h:n<=255) (hk:K (n:Int)):EI .u8 (n:Int) K:=zD (IntWalk.u8_in _ (by omega)) hk
end
theorem Abu {tb:List Nat} {n v:Nat} {K:Nat->Prop} (hv:tb[n]? = some v) (hk:K v):tG tb (n:Int) K:=⟨by omega,v,by rw[Int.toNat_natCast];exact hv,hk⟩
abbrev C3 (n:Nat):List AV:=[.int .u32 (n:Int)]
theorem I7 (l:List Nat):L3 (l.map C3):=rH (λ_=>by simp [GK,EA]) l
section
variable {l:List Nat} {K:List AV->Prop}
theorem Abq {n:Nat} (hD:EK l) (hn:n<l.length) (h : ∀ e,l[n]? = some e->e<4294967296->K (C3 e)):DY (l.map C3) (n:Int) 1 K :=
 bY hn (λ_=>rfl) λ e he=>h e he (hD.at he)
theorem rB {a:Int} (hD:EK l) (hn:0<=a/\a<l.length) (h : ∀ e,l[a.toNat]? = some e->e<4294967296->K (C3 e)):DY (l.map C3) a 1 K :=
 Adw hn (λ_=>rfl) λ e he=>h e he (hD.at he)
theorem AhP {i:Nat} (hD:EK l) (hi:i<l.length) (h : ∀ e,l[i]? = some e->e<4294967296->K (C3 e)):FC (l.map C3) (0+((i:Int)).toNat) 0 1 K :=
 vW (f:=C3) hi (λ_=>rfl) λ e he=>h e he (hD.at he)
theorem tE {i:Int} (hD:EK l) (hi:0<=i/\i<l.length) (h : ∀ e,l[i.toNat]? = some e->e<4294967296->K (C3 e)):FC (l.map C3) (0+i.toNat) 0 1 K :=
 AhQ (f:=C3) hi (λ_=>rfl) λ e he=>h e he (hD.at he)
theorem NT {i v:Nat} {KK:List (List AV)->Prop} (hi:i<l.length) (h:KK ((l.set i v).map C3)):E1 (l.map C3) (0+((i:Int)).toNat) 0 [.int .u32 (v:Int)] KK:=bZ (enc:=C3) v rfl (λ_=>rfl) hi h
theorem Abt {i v:Nat} {KK:List (List AV)->Prop} (n:Nat) (hn:i=n) (hi:n<l.length) (h:KK ((l.set n v).map C3)):E1 (l.map C3) i 0 [.int .u32 (v:Int)] KK:=Z4 (enc:=C3) n v hn rfl (λ_=>rfl) hi h
end
end Go.c9
namespace Go.c9
variable {L:Lib}
theorem Ev.xE {f:Nat} {fn:AFn} {vs:List AV} {P:AV->Prop} (hL:L f=some fn) (hp:Nat.beq vs.length fn.gp=true) (hd:cE vs=true) (h:A0 L [.code fn.body] (IQ 0 vs) [] (λ tm M => ∃ r,pK fn r tm M/\P r)) (hs:fn.Aq=false:=by rfl) : ∃ r,Ev L f vs r/\P r:=by
 obtain ⟨n,c,n0,hr,σ,tm,M,hR,r,hq,hP⟩:=h (λ_ _=>(0,0)) ⟨IQ 0 vs,C2.emp⟩ ⟨λ j=>Or.inr (by rw[bM];exact Tu hd j),⟨(λ_ _ _ e=>by cases e),(λ_ _ _ e=>by simp [g6,g7]at e),(λ_ _ _ e=>by simp [g6,g7]at e),(λ_ _ _ _ _ _ e=>by simp [g6,g7]at e),(λ_ _ _ e=>by simp [g6,g7]at e)⟩⟩;exact ⟨r,Ev.fwd hL (GU.1 hp) ⟨n,c,n0,hr,Ah2 hR hq⟩ hs,hP⟩
def yE:K8->Bool
 | .gj .. | .box .. | .alloc .. | .a9 .. | .st .. | .mk .. | .app .. | .j6 .. | .w5 .. | .zi .. | .ay .. | .iy .. => false
 | _=>true
def YJ:FX->Bool
 | .skip=>true
 | .ops l _=>l.all λ a=>yE a.op
 | .dr c _ ss=>YJ c&&ss.isEmpty
 | .scope c=>YJ c
 | .seq a b=>YJ a&&YJ b
 | .cond _ a b=>YJ a&&YJ b
 | .block _ c=>YJ c
 | .loop c=>YJ c
 | .exit _=>true
 | .ret=>true
def qE:It->Bool
 | .code c=>YJ c
 | .yd _ ss=>ss.isEmpty
 | .k8 _=>true
 | .lp c=>YJ c
theorem AsH {C:Cl} {c4:List Nat} {ρ:C4->AV} {own:C2} {op:K8} {E:H5} (ho:yE op=true) (h:k6 C c4 ρ own op=some E) : ∃ v,E = .val v:=by
 cases op<;>first|(simp [yE]at ho;done)|skip
 all_goals simp only[k6]at h
 all_goals
  first
   | (simp only[Option.some.injEq]at h;exact ⟨_,h.symm⟩)
   | (simp only[Option.map_eq_some_iff]at h;obtain ⟨_,_,rfl⟩:=h;exact ⟨_,rfl⟩)
   | skip
 all_goals (repeat' split at h)
 all_goals
  first
   | (cases h;done)
   | (simp only[Option.some.injEq]at h;exact ⟨_,h.symm⟩)
   | (simp only[Option.map_eq_some_iff]at h;obtain ⟨_,_,rfl⟩:=h;exact ⟨_,rfl⟩)
theorem Axp {C:Cl} {a:AI} (ho:yE a.op=true) {s s':St} (h:JE C a s=some s'):s'.own=s.own:=by
 unfold JE at h;split at h
 ·cases he:k6 C a.c4 s.ev s.own a.op with
  | none=>rw[he]at h;cases h
  | some E =>
   rw[he]at h;obtain ⟨v,rfl⟩:=AsH ho he;simp only[Option.map_some,Option.some.injEq]at h;subst h;simp only[St.app];cases a.dst<;>rfl
 ·simp only[Option.some.injEq]at h
  subst h;cases a.dst<;>rfl
 ·cases h
theorem An1 {C:Cl} : ∀ {l:List AI},(l.all λ a=>yE a.op)=true -> ∀ {s s':St},JZ C l s=some s'->s'.own=s.own
 | [],_,s,s',h=>by simp only[JZ,Option.some.injEq]at h;rw[h]
 | a::l,ho,s,s',h=>by
  simp only[List.all_cons,Bool.and_eq_true]at ho;simp only[JZ]at h;cases h1:JE C a s with
  | none=>rw[h1]at h;cases h
  | some s1 =>
   rw[h1]at h;rw[An1 ho.2 h,Axp ho.1 h1]
theorem Vm {id:Nat} : ∀ {k k':List It},k.all qE=true->OH id k=some k'->k'.all qE=true
 | [],_,_,h=>by simp [OH]at h
 | it::k,k',hk,h=>by
  simp only[List.all_cons,Bool.and_eq_true]at hk;cases it with
  | k8 i =>
   simp only[OH]at h;split at h
   ·cases h;exact hk.2
   ·exact Vm hk.2 h
  | code c=>simp only[OH]at h;exact Vm hk.2 h
  | yd a b=>simp only[OH]at h;exact Vm hk.2 h
  | lp c=>simp only[OH]at h;exact Vm hk.2 h
theorem ZL {C:Cl} : ∀ (n:Nat) {k:List It},k.all qE=true -> ∀ {s s':St},run C n k s=some s'->s'.own=s.own
 | 0,k,_,s,s',h=>by simp [run]at h
 | n+1,[],_,s,s',h=>by
  simp only[run,Option.some.injEq]at h;rw[h]
 | n+1,it::k,hk,s,s',h=>by
  have qi:=hk;simp only[List.all_cons,Bool.and_eq_true]at hk;obtain ⟨hi,hk⟩:=hk;cases it with
  | k8 _=>simp only[run]at h;exact ZL n hk h
  | yd ts ss =>
   have:ss=[]:=by simpa [qE] using hi
   subst this;simp only[run]at h;rw[ZL n hk h];rfl
  | lp c=>simp only[run]at h;exact ZL n (by simp only[List.all_cons,Bool.and_eq_true];exact ⟨hi,hi,hk⟩) h
  | code c =>
   cases c with
   | skip=>simp only[run]at h;exact ZL n hk h
   | ops l d =>
    simp only[run]at h;cases h1:JZ C l s with
    | none=>rw[h1]at h;cases h
    | some s1 =>
     rw[h1]at h;rw[ZL n hk h,An1 (show (l.all λ a=>yE a.op)=true from hi) h1]
   | dr c ts ss =>
    simp only[run]at h;simp only[qE,YJ,Bool.and_eq_true]at hi;exact ZL n (by simp only[List.all_cons,Bool.and_eq_true];exact ⟨hi.1,hi.2,hk⟩) h
   | scope c=>simp only[run]at h;exact ZL n (by simp only[List.all_cons,Bool.and_eq_true];exact ⟨hi,hk⟩) h
   | seq a b =>
    simp only[run]at h;simp only[qE,YJ,Bool.and_eq_true]at hi;exact ZL n (by simp only[List.all_cons,Bool.and_eq_true];exact ⟨hi.1,hi.2,hk⟩) h
   | cond x a b =>
    simp only[qE,YJ,Bool.and_eq_true]at hi;simp only[run]at h;split at h
    ·exact ZL n (by simp only[List.all_cons,Bool.and_eq_true];exact ⟨hi.1,hk⟩) h
    ·exact ZL n (by simp only[List.all_cons,Bool.and_eq_true];exact ⟨hi.2,hk⟩) h
    ·cases h
   | block id c=>simp only[run]at h;exact ZL n (by simp only[List.all_cons,Bool.and_eq_true];exact ⟨hi,rfl,hk⟩) h
   | loop c=>simp only[run]at h;exact ZL n (by simp only[List.all_cons,Bool.and_eq_true];exact ⟨hi,hi,hk⟩) h
   | exit id =>
    simp only[run]at h;split at h
    ·rename_i k' he
     exact ZL n (Vm hk he) h
    ·cases h
   | ret =>
    simp only[run,Option.some.injEq]at h;rw[h]
def ApR (fn:AFn) (r:AV) (tm:Tm) (_M:Mem):Prop := ∃ rs,sH tm fn.res=some rs/\X3 rs=r
def AbN:AV->Bool
 | .j5 vs=>cE vs
 | v=>rJ v
theorem AiU {σ:OA} {v:AV} (h:AbN v=true):FG σ v=v:=by
 cases v with
 | j5 vs =>
  simp only[FG];congr 1;simp only[AbN]at h;induction vs with
  | nil=>rfl
  | cons v r ih =>
   simp only[cE]at h;cases hv:rJ v<;>simp only[hv,cond_true,cond_false]at h
   ·cases h
   ·rw[List.map_cons,ih h]
    congr 1;cases v<;>first|rfl|(simp [rJ,Ea]at hv;done)|skip
    rename_i cs;exact AbM (σ:=σ) (v := .agg cs) hv
 | _=>exact AbM (σ:=σ) h
def zL (L:Lib) (f:Nat) (vs:List AV) (r:AV):Prop:=AbN r=true/\(∀ σ:OA,vs.map (FG σ)=vs) /\ ∀ own:C2,P9 L f vs own r own
theorem AiS {σ:OA} : ∀ {vs:List AV},cE vs=true->vs.map (FG σ)=vs
 | [],_=>rfl
 | v::r,h=>by
  simp only[cE]at h;cases hv:rJ v<;>simp only[hv,cond_true,cond_false]at h
  ·cases h
  ·rw[List.map_cons,AbM hv,AiS h]
theorem ApS {f:Nat} {fn:AFn} {vs:List AV} {r:AV} (hL:L f=some fn) (hp:Nat.beq vs.length fn.gp=true) (hd:cE vs=true) (Je:YJ fn.body=true) (o5:Te 100000 fn.res=true) (hr:AbN r=true) (h:A0 L [.code fn.body] (IQ 0 vs) [] (ApR fn r)):zL L f vs r:=by
 refine ⟨hr,λ σ=>AiS hd,λ own => ?_⟩;obtain ⟨n,c,n0,cp,σ,tm,M,hR,rs,Yz,he⟩:=h (λ_ _=>(0,0)) ⟨IQ 0 vs,own⟩ ⟨λ j=>Or.inr (by rw[bM];exact Tu hd j),⟨(λ_ _ _ e=>by cases e),(λ_ _ _ e=>by simp [g6,g7]at e),(λ_ _ _ e=>by simp [g6,g7]at e),(λ_ _ _ _ _ _ e=>by simp [g6,g7]at e),(λ_ _ _ e=>by simp [g6,g7]at e)⟩⟩;have ho:=ZL n (by simp [qE,Je]) cp;obtain ⟨i1,i2⟩:=Agi (N:=100000) (s:=n0) hR (λ_ _=>rfl) o5 Yz;refine P9.intro hL (GU.1 hp) ⟨n,c,n0,cp,?_,ho⟩;rw[i1,Option.map_some,AmU i2,he,AiU hr]
theorem bV {f:Nat} {vs:List AV} {r:AV} {tm:Tm} {M:Mem} {K:AV->Mem->Prop} (h:zL L f vs r) (hk:K r M):EU L f vs tm M K:=by
 intro σ own hs;refine ⟨r,own,σ,M,?_,hs,λ_=>rfl,hk⟩;rw[h.2.1 σ,AiU h.1];exact h.2.2 own
end Go.c9

namespace Go.c9
variable {L:Lib}
def Adx (fn:AFn) (z:Nat) (es:List (List AV)) (tm:Tm) (M:Mem):Prop:=match fn.res with
 | [.tmp t]=>match tg tm t with
  | .row k 0 z' 0 n=>match g7 M k with
   | some (_,.rw ow es')=>z'=z/\ow=z/\n=es.length/\es'=es/\L3 es
   | _=>False
  | _=>False
 | _=>False
theorem aH.x {f:Nat} {fn:AFn} {vs:List AV} {z:Nat} {es:List (List AV)} (hL:L f=some fn) (hp:Nat.beq vs.length fn.gp=true) (hd:cE vs=true) (h:A0 L [.code fn.body] (IQ 0 vs) [] (Adx fn z es)):aH L f vs z es:=by
 obtain ⟨n,c,n0,hr,σ,tm,M,hR,hq⟩:=h (λ_ _=>(0,0)) ⟨IQ 0 vs,C2.emp⟩ ⟨λ j=>Or.inr (by rw[bM];exact Tu hd j),⟨(λ_ _ _ e=>by cases e),(λ_ _ _ e=>by simp [g6,g7]at e),(λ_ _ _ e=>by simp [g6,g7]at e),(λ_ _ _ _ _ _ e=>by simp [g6,g7]at e),(λ_ _ _ e=>by simp [g6,g7]at e)⟩⟩;unfold Adx at hq;split at hq
 ·rename_i t uo
  split at hq
  ·rename_i k z' m Ql
   split at hq
   ·rename_i s ow es' hM
    obtain ⟨rfl,rfl,rfl,rfl,ag⟩:=hq;have hv:k7 n0.tm t = .row (σ k 0).1 (σ k 0).2 ow 0 es'.length:=by
     rcases hR.tm t with e|e
     ·rw[Ql]at e;cases e
     ·rw[e,Ql];rfl
    have hb:=hR.sat.k8 k 0 (.rw ow es') (by simp only[g6,hM]);obtain ⟨q,hq⟩:=P9.intro (r := .row (σ k 0).1 (σ k 0).2 ow 0 es'.length) (o':=n0.own) hL (GU.1 hp) ⟨n,c,n0,hr,by simp [uo,NQ,hv,ZH,X3],rfl⟩;refine ⟨q,?_⟩;simp only[hq,nP,C2.get,hb];rw[if_pos (show (FB.k8 σ k (.rw ow es')).es.length=es'.length/\L3 (FB.k8 σ k (.rw ow es')).es from ⟨rfl,ag⟩)];rfl
   ·exact hq.elim
  ·exact hq.elim
 ·exact hq.elim
theorem AoM {Q:Tm->Mem->Prop} {c:FX} {k:List It} {tm:Tm} {M:Mem} (n:Nat) (h:fT (Gp 0 tm) λ tm=>xV M λ M=>XK L Q n (.code c::k) tm M):A0 L (.code c::k) tm M Q:=by
 rw[xI,Acb]at h;exact Ahw (Adz h)
theorem vR {α:Type} {enc:α->List AV} {l:List α} {f z:Nat} {vs:List AV} {K:Nat->List (List AV)->Nat->Prop} (n:Nat) (h:aH L f vs z (l.map enc)) (hn:n=l.length) (hk:K z (l.map enc) n):JW L f vs K:=⟨z,_,n,h,by simpa using hn,hk⟩
end Go.c9

namespace Go.c9
def yH (N:Nat):List aG->Bool
 | []=>true
 | .tmp t::r=>Nat.blt t N&&yH N r
 | .cell t _ _::r=>Nat.blt t N&&yH N r
theorem Agk {N:Nat} {s s':St} (ho:s.own=s'.own) (yn : ∀ j,j<N->k7 s'.tm j=k7 s.tm j) : ∀ {res:List aG},yH N res=true->res.mapM (NQ s)=res.mapM (NQ s')
 | [],_=>rfl
 | .tmp t::r,h=>by
  simp only[yH,Bool.and_eq_true]at h;have:=Agk ho yn h.2
  simp only[List.mapM_cons,NQ,yn t (tJ.1 h.1),this]
 | .cell t agg n::r,h=>by
  simp only[yH,Bool.and_eq_true]at h;have:=Agk ho yn h.2
  simp only[List.mapM_cons,NQ,yn t (tJ.1 h.1),this,ho]
def ApQ (N:Nat) (fn:AFn) (tm:Tm) (K:AV->Mem->Prop) (gi:Tm) (M':Mem):Prop:=gh N gi=tm/\Acz gi M' fn.res (λ rs=>rsv rs λ v=>K v M')
theorem N1 {L:Lib} {f:Nat} {fn:AFn} {vs:List AV} {tm:Tm} {M:Mem} {K:AV->Mem->Prop} (N:Nat) (hL:L f=some fn) (hp:Nat.beq vs.length fn.gp=true) (hN:(Nat.ble fn.gp N&&(YH N fn.body&&yH N fn.res))=true)
  (h:A0 L [.code fn.body] (IQ 0 vs++P5 N tm) M (ApQ N fn tm K)):EU L f vs tm M K:=by
 intro σ own hs;simp only[Bool.and_eq_true]at hN;obtain ⟨n1,n2,n3⟩:=hN;have n1:=Nat.le_of_ble_eq_true n1;have hp:vs.length=fn.gp:=Nat.eq_of_beq_eq_true hp;have Za:RX σ (IQ 0 vs++P5 N tm) M ⟨fG (FG σ) (IQ 0 vs++P5 N tm),own⟩:=⟨λ j=>Or.inr (by rw[bM];exact bP (cY σ) j _),hs⟩;obtain ⟨n,c,s',hr,σ',gi,M',hR,hg,uo⟩:=h σ _ Za;have hgh:Gh N (fG (FG σ) (P5 N tm)) (IQ 0 (vs.map (FG σ))) (fG (FG σ) (IQ 0 vs++P5 N tm)):=by
  constructor
  ·intro j hj
   rw[Afm,bP (cY σ),bP (cY σ)];rcases Ri j (P5 N tm) (IQ 0 vs) with ⟨_,e⟩|⟨hn,e⟩
   ·rw[e]
   ·rw[e,Ahq hj,Aho j 0 vs hn]
  ·intro j hj
   rw[bP (cY σ),bP (cY σ)];rcases Ri j (P5 N tm) (IQ 0 vs) with ⟨hn,e⟩|⟨_,e⟩
   ·have:=Afl j 0 vs hn
    omega
   ·rw[e]
 obtain ⟨s,r1,r2,r3⟩:=ZJ n (by simp [rX,n2]) hgh hr;obtain ⟨rs,i1,i2,i3⟩:=Agj hR uo;rw[<-Agk (s:=s) r2.symm r3.lo n3,i3]at i1;have key : ∃ r,X3 (rs.map (GD σ'))=FG σ' r/\K r M':=by
  match rs,i2,i3 with
  | [],h,_=>exact ⟨.j5 [],rfl,h⟩
  | [v],h,e =>
   simp only[List.map_cons,List.map_nil,List.cons.injEq,and_true]at e;exact ⟨v,by simp only[List.map_cons,List.map_nil,X3];exact e.symm,h⟩
  | a::b::l,h,_=>exact ⟨.j5 (a::b::l),rfl,h⟩
 obtain ⟨r,k1,k2⟩:=key;refine ⟨r,s.own,σ',M',P9.intro hL (by simpa using hp) ⟨n,c,s,r1,?_,rfl⟩,?_,?_,k2⟩
 ·rw[i1,Option.map_some,k1]
 ·rw[<-r2];exact hR.sat
 ·intro j
  have e1:tg tm j=tg gi (N+j):=by rw[bM,bM,<-hg,Ahn]
  rcases hR.tm (N+j) with e|e
  ·rw[e1,e];rfl
  ·rw[e1,<-e,r3.hi (N+j) (by omega),bP (cY σ),Ahp,<-bM,e1]
end Go.c9

namespace Go.c9
theorem Aoy {A w C:List Nat} {i n:Nat} (hi:i=A.length+n) (hn:n<w.length):(A++w++C)[i]? = w[n]? := by
 subst hi;rw[List.append_assoc,List.getElem?_append_right (by omega),Nat.add_sub_cancel_left,List.getElem?_append_left hn]
theorem Ax3 {A w C:List Nat} {i n v:Nat} (hi:i=A.length+n) (hn:n<w.length):(A++w++C).set i v=A++w.set n v++C:=by
 subst hi;rw[List.append_assoc,List.set_append_right _ _ (by omega),Nat.add_sub_cancel_left,List.set_append_left _ _ hn,List.append_assoc]
theorem nO {A w C:List Nat} {i v:Nat} {KK:List (List AV)->Prop} (n:Nat) (hi:i=A.length+n) (hn:n<w.length) (h:KK ((A++w.set n v++C).map C3)):E1 ((A++w++C).map C3) i 0 [.int .u32 (v:Int)] KK:=by
 have hl:i<(A++w++C).length:=by simp;omega
 refine Z4 (enc:=C3) i v rfl rfl (λ_=>rfl) hl ?_;rw[Ax3 hi hn];exact h
theorem AvK {W X Vi p q u d c b pr t:Nat} (h:W+q*Vi=X+p*(c+b)) (Dh:pr=q*d+c) (ht:t=MD (MD u (pr%4294967296)) b) (hu:u<4294967296) (hb:b<=1) :
  W+p*(t%4294967296)+q*(Vi+p*d)=X+p*u+p*4294967296*(pr/4294967296+t/9223372036854775808):=by
 obtain ⟨h1,_⟩:=Ac3 hu (show pr%4294967296<4294967296 by omega) hb;rw[<-ht]at h1;have h2:=Nat.mod_add_div pr 4294967296;generalize t%4294967296=w at *;generalize t/9223372036854775808=b' at *;generalize pr%4294967296=pl at *;generalize pr/4294967296=ph at *;have e1:p*(w+pl+b)=p*(u+4294967296*b'):=by rw[h1]
 have e2:p*(pl+4294967296*ph)=p*(q*d+c):=by rw[h2,Dh]
 grind
theorem Amg {q d c pr:Nat} (hq:q<4294967296) (hd:d<4294967296) (hc:c<4294967296) (Dh:pr=q*d+c):pr/4294967296<4294967296/\pr<=18446744073709551615/\q*d<=18446744065119617025:=by
 have:=yA hq hd
 omega
theorem AvI {W X V p q u c b t:Nat} (h:W+q*V=X+p*(c+b)) (ht:t=MD (MD u c) b) (hu:u<4294967296) (hc:c<4294967296) (hb:b<=1) :
  W+p*(t%4294967296)+q*V=X+p*u+p*4294967296*(t/9223372036854775808):=by
 obtain ⟨h1,_⟩:=Ac3 hu hc hb;rw[<-ht]at h1;generalize t%4294967296=w at *;generalize t/9223372036854775808=b' at *;have e1:p*(w+c+b)=p*(u+4294967296*b'):=by rw[h1]
 grind
theorem AvL {W X Vi p q u d c b pr w take have' ja:Nat} (h:W+q*Vi=X+p*(c+b)) (Dh:pr=c+q*d) (h1:take=pr%4294967296+b) (h2:(have'=u/\ja=0/\take<=u)\/(have'=u+4294967296/\ja=1/\u<take)) (h3:w+take=have') :
  W+p*w+q*(Vi+p*d)=X+p*u+p*4294967296*(pr/4294967296+ja):=by
 have h4:=Nat.mod_add_div pr 4294967296;have h5:w+pr%4294967296+b=u+4294967296*ja:=by omega
 generalize pr%4294967296=pl at *;generalize pr/4294967296=ph at *;have e1:p*(w+pl+b)=p*(u+4294967296*ja):=by rw[h5]
 have e2:p*(pl+4294967296*ph)=p*(c+q*d):=by rw[h4,Dh]
 grind
theorem AvJ {W X V p q u c b w take have' ja:Nat} (h:W+q*V=X+p*(c+b)) (h1:take=c+b) (h2:(have'=u/\ja=0/\take<=u)\/(have'=u+4294967296/\ja=1/\u<take)) (h3:w+take=have') :
  W+p*w+q*V=X+p*u+p*4294967296*ja:=by
 have h5:w+c+b=u+4294967296*ja:=by omega
 have e1:p*(w+c+b)=p*(u+4294967296*ja):=by rw[h5]
 grind
theorem Ah9 {W X Vi p w d c t:Nat} (h:W+p*c=X+Vi) (ht:t=w+d+c):W+p*(t%4294967296)+p*4294967296*(t/4294967296)=X+p*w+(Vi+p*d):=by
 have h1:=pQ W p t;have e:p*t=p*w+p*d+p*c:=by rw[ht];grind
 omega
theorem Ah8 {W X V R p w c:Nat} (h:W+p*c=X+V) (hX:X+p*w+V=R+p*4294967296) (hR:R<p*4294967296) (hW:W<p):W+p*((w+c)%4294967296)=R:=by
 have h1:W+p*(w+c)=R+p*4294967296:=by
  rw[Nat.mul_add];omega
 have h2:=Nat.mod_add_div (w+c) 4294967296;have h3:p*(w+c)=p*((w+c)%4294967296)+p*4294967296*((w+c)/4294967296):=by
  rw[Nat.mul_assoc,<-Nat.mul_add,h2]
 have h4:(w+c)%4294967296<4294967296:=Nat.mod_lt _ (by omega);generalize (w+c)%4294967296=m at *;generalize (w+c)/4294967296=k at *;have h5:W+p*m<p*4294967296:=by
  have:p*m+p<=p*4294967296:=by rw[<-Nat.mul_succ];exact Nat.mul_le_mul_left p (by omega)
  omega
 have h6:k=1:=by
  rcases Nat.lt_trichotomy k 1 with hk|hk|hk
  ·have:k=0:=by omega
   subst this;omega
  ·exact hk
  ·have:p*4294967296*2<=p*4294967296*k:=Nat.mul_le_mul_left _ (by omega)
   omega
 subst h6;omega
theorem AxK {U V UL VL p u2 v2 v1 top:Nat} (hU:U=UL+p*(u2+4294967296*top)) (hV:V=VL+p*(v2+4294967296*v1)) (Mn:VL<p) (h2:v2<4294967296) (h:U<4294967296*V):top<4294967296*(v1+1):=by
 have h3:V<p*(4294967296*(v1+1)):=by
  have:p*(v2+4294967296*v1)+p<=p*(4294967296*(v1+1)):=by
   rw[<-Nat.mul_succ];exact Nat.mul_le_mul_left p (by omega)
  omega
 have h4:p*(4294967296*top)<=U:=by
  have:p*(4294967296*top)<=p*(u2+4294967296*top):=Nat.mul_le_mul_left p (by omega)
  omega
 have h5:p*(4294967296*top)<p*(4294967296*(4294967296*(v1+1))):=by
  have:p*(4294967296*(4294967296*(v1+1)))=4294967296*(p*(4294967296*(v1+1))):=by grind
  omega
 have:=Nat.lt_of_mul_lt_mul_left h5
 omega
structure Gs (U V v1 v2 u2 top q r:Nat):Prop where
 hq:q*v1+r=top
 hr:r<4294967296
 ge:U/V<=q
theorem Gs.next {U V UL VL p v1 v2 u2 top q r:Nat} (g:Gs U V v1 v2 u2 top q r) (hU:U=UL+p*(u2+4294967296*top)) (hV:V=VL+p*(v2+4294967296*v1)) (Pp:UL<p) (gk:0<V) (hUV:U<4294967296*V)
  (h:4294967296<=q\/r*4294967296+u2<q*v2):1<=q/\(q-1)*v1+(r+v1)=top/\U/V<=q-1:=by
 have h1:U/V<q:=by
  rcases h with h|h
  ·exact Aus hUV h gk
  ·exact Aut hU hV Pp g.hq h gk
 have hq:=g.hq;clear h g hU hV hUV;generalize U/V=Q at *;obtain ⟨k,rfl⟩ : ∃ k,q=k+1:=⟨q-1,by omega⟩;refine ⟨by omega,?_,by omega⟩;rw[Nat.add_sub_cancel,<-hq,Nat.add_mul];omega
theorem Gs.start {U V UL VL p v1 v2 u2 top:Nat} (hU:U=UL+p*(u2+4294967296*top)) (hV:V=VL+p*(v2+4294967296*v1)) (Pp:UL<p) (h2:u2<4294967296) (gk:0<V) (h1:0<v1) (h1b:v1<4294967296):Gs U V v1 v2 u2 top (top/v1) (top%v1):=by
 refine ⟨by rw[Nat.mul_comm];exact Nat.div_add_mod _ _,?_,?_⟩
 ·have:=Nat.mod_lt top h1
  omega
 ·rw[Nat.le_div_iff_mul_le h1]
  exact Auu hU hV Pp h2 gk
theorem xM {U V UL VL p v1 v2 u2 top q r:Nat} (hU:U=UL+p*(u2+4294967296*top)) (hV:V=VL+p*(v2+4294967296*v1)) (Mn:VL<p) (hv1:2147483648<=v1) (hv2:v2<4294967296) (hUV:U<4294967296*V) (hq:q*v1+r=top)
  (h:(q<4294967296/\q*v2<=r*4294967296+u2)\/4294967296<=r):q<4294967296/\q<=U/V+1:=by
 rcases h with ⟨h1,h2⟩|h
 ·exact ⟨h1,Ak4 hU hV Mn hv1 hq h2 h1⟩
 ·have ht:=AxK hU hV Mn hv2 hUV
  have Dr:q<4294967296:=by
   have h3:q*v1<4294967296*v1:=by omega
   exact Nat.lt_of_mul_lt_mul_right h3
  refine ⟨Dr,Ak4 hU hV Mn hv1 hq ?_ Dr⟩;have:=yA Dr hv2
  omega
theorem vH (a:List Nat) (k:Nat):val a=val (a.take k)+4294967296^k*val (a.drop k):=by
 rcases Nat.lt_or_ge a.length k with h|h
 ·rw[zT (by omega),List.drop_of_length_le (by omega),ZT];omega
 ·exact bR a k h
theorem vG (a:List Nat) (k:Nat):val (a.drop k)=a.getD k 0+4294967296*val (a.drop (k+1)):=by
 rcases Nat.lt_or_ge k a.length with h|h
 ·rw[V7 (zE h),List.getD_eq_getElem?_getD,zE h];rfl
 ·rw[List.drop_of_length_le h,List.drop_of_length_le (by omega),List.getD_eq_getElem?_getD,List.getElem?_eq_none h];rfl
theorem rT {a:List Nat} (h:EK a) (k:Nat):a.getD k 0<4294967296:=by
 rw[List.getD_eq_getElem?_getD];cases e:a[k]? with
 | none=>simp
 | some d=>simpa using h.at e
theorem getD_some {a:List Nat} {k d:Nat} (h:a[k]? = some d):d=a.getD k 0:=by rw[List.getD_eq_getElem?_getD,h];rfl
theorem rU {a:List Nat} {k:Nat} (h:a.length<=k):0=a.getD k 0:=by rw[List.getD_eq_getElem?_getD,List.getElem?_eq_none h];rfl
theorem Ac9 {a:List Nat} (hD:EK a) {n:Nat} (hn:3<=n) (hl:a.length<=n) : ∃ r,r<4294967296^(n-3)/\val a=r+4294967296^(n-3)*(a.getD (n-3) 0+4294967296*(a.getD (n-2) 0+4294967296*a.getD (n-1) 0)):=by
 refine ⟨val (a.take (n-3)),?_,?_⟩
 ·refine Nat.lt_of_lt_of_le (NH (hD.take _)) (Nat.pow_le_pow_right (by omega) ?_)
  rw[List.length_take];omega
 ·have h1:=vH a (n-3)
  have h2:=vG a (n-3);have h3:=vG a (n-3+1);have h4:=vG a (n-3+1+1);rw[List.drop_of_length_le (show a.length<=n-3+1+1+1 by omega),ZT]at h4;rw[show n-3+1=n-2 by omega]at *;rw[show n-2+1=n-1 by omega]at *;rw[h4,Nat.mul_zero,Nat.add_zero]at h3;rw[h3]at h2;rw[h2]at h1;exact h1
theorem Aor {a:List Nat} (hD:EK a) {n:Nat} (hn:2<=n) (hl:a.length<=n) : ∃ r,r<4294967296^(n-2)/\val a=r+4294967296^(n-2)*(a.getD (n-2) 0+4294967296*a.getD (n-1) 0):=by
 refine ⟨val (a.take (n-2)),?_,?_⟩
 ·refine Nat.lt_of_lt_of_le (NH (hD.take _)) (Nat.pow_le_pow_right (by omega) ?_)
  rw[List.length_take];omega
 ·have h1:=vH a (n-2)
  have h2:=vG a (n-2);have h3:=vG a (n-2+1);rw[List.drop_of_length_le (show a.length<=n-2+1+1 by omega),ZT]at h3;rw[show n-2+1=n-1 by omega]at *;rw[h3,Nat.mul_zero,Nat.add_zero]at h2;rw[h2]at h1;exact h1
theorem rK {a b:Nat} (h:a<=b):(dg a).length<=(dg b).length:=by
 rcases Nat.lt_or_ge (dg b).length (dg a).length with h1|h1
 ·have:=zA h1;omega
 ·exact h1
theorem dg2 {p:Nat} (h:p<18446744073709551616):val [p%4294967296,p/4294967296]=p/\EK [p%4294967296,p/4294967296]:=by
 refine ⟨by simp [val];omega,λ x hx => ?_⟩;simp at hx;omega
theorem QB {a:List Nat} {k d:Nat} (h:a[k]? = some d):a.getD k 0=d:=(getD_some h).symm
theorem Aft {y:List Nat} {s yt:Nat} (hD:EK y) (Jp:y[y.length-1]? = some yt) (hl:1<=y.length) (hs:s<=31) (b3:2147483648<=yt*2^s) (b4:yt*2^s<4294967296):val y*2^s<4294967296^y.length/\4294967296^(y.length-1)*2147483648<=val y*2^s:=by
 have h1:=bR y (y.length-1) (by omega);have h2:=V7 Jp;rw[List.drop_of_length_le (show y.length<=y.length-1+1 by omega),ZT,Nat.mul_zero,Nat.add_zero]at h2;rw[h2]at h1;have h3:=NH (hD.take (y.length-1));rw[List.length_take,Nat.min_eq_left (by omega)]at h3;have e:4294967296^y.length=4294967296^(y.length-1)*4294967296:=by rw[<-Nat.pow_succ,Nat.succ_eq_add_one,show y.length-1+1=y.length by omega]
 rw[e];generalize 4294967296^(y.length-1)=p at *;have hk:(yt+1)*2^s<=4294967296:=by
  have e2:4294967296=2^s*2^(32-s):=by rw[<-Nat.pow_add,show s+(32-s)=32 by omega]
  rw[e2,Nat.mul_comm]at b4;have:=Nat.lt_of_mul_lt_mul_left b4
  rw[e2,Nat.mul_comm];exact Nat.mul_le_mul_left _ this
 have h4:val y+1<=p*(yt+1):=by rw[Nat.mul_add];omega
 have h5:=zR (2^s) h4;have h6:p*((yt+1)*2^s)<=p*4294967296:=Nat.mul_le_mul_left p hk;rw[<-Nat.mul_assoc]at h6;have h7:p*2147483648<=p*(yt*2^s):=Nat.mul_le_mul_left p b3;have h8:p*(yt*2^s)<=val y*2^s:=by rw[<-Nat.mul_assoc];exact zR _ (by omega)
 have h9:=Nat.two_pow_pos s;rw[Nat.add_mul]at h5;exact ⟨by omega,by omega⟩
theorem Aom {v:List Nat} {k c d:Nat} (hD:EK v) (hl:v.length=k+1) (h:4294967296^k*c<=val v) (hd:v[k]? = some d):c<=d:=by
 have h1:=bR v k (by omega);have h2:=V7 hd;rw[List.drop_of_length_le (show v.length<=k+1 by omega),ZT,Nat.mul_zero,Nat.add_zero]at h2;rw[h2]at h1;have h3:=NH (hD.take k);rw[List.length_take,Nat.min_eq_left (by omega)]at h3;generalize 4294967296^k=p at *;have h4:p*c<p*(d+1):=by rw[Nat.mul_add];omega
 have:=Nat.lt_of_mul_lt_mul_left h4
 omega
theorem Ajl (o:List Nat) (j n:Nat) (h:j+n<=o.length) : ∃ A W C,A.length=j/\W.length=n/\o=A++W++C:=by
 refine ⟨o.take j,(o.drop j).take n,(o.drop j).drop n,by simp;omega,by simp;omega,?_⟩;rw[List.append_assoc,List.take_append_drop,List.take_append_drop]
theorem AiW {A W C:List Nat} (h:EK (A++W++C)):EK A/\EK W/\EK C:=by
 refine ⟨λ x hx=>h x (by simp [hx]),λ x hx=>h x (by simp [hx]),λ x hx=>h x (by simp [hx])⟩
theorem Ajn {A W C:List Nat} {j l V:Nat} (hA:A.length=j) (hW:W.length=l+1) (hD:EK (A++W++C)) (h:val ((A++W++C).drop (j+1))<V) (hV:V<4294967296^l) :
  val C=0/\val W<4294967296*V/\val ((A++W++C).take (j+1))+4294967296^(j+1)*val ((A++W++C).drop (j+1))=val A+4294967296^j*val W:=by
 have h1:=vH (A++W++C) (j+1);have h2:val (A++W++C)=val A+4294967296^j*(val W+4294967296^(l+1)*val C):=by
  rw[List.append_assoc,yZ,yZ,hA,hW]
 have h3:=vG (A++W++C) j;have h4:(A++W++C).drop j=W++C:=by
  rw[List.append_assoc,List.drop_append_of_le_length (by omega),List.drop_of_length_le (by omega)];rfl
 have h5:=rT hD j;rw[h4,yZ,hW]at h3;rw[Nat.pow_succ]at h3;have h6:val C=0:=by
  rcases Nat.eq_zero_or_pos (val C) with h0|h0
  ·exact h0
  ·have:4294967296^l*4294967296*1<=4294967296^l*4294967296*val C:=Nat.mul_le_mul_left _ h0
   omega
 rw[h6,Nat.mul_zero,Nat.add_zero]at h3;refine ⟨h6,by omega,?_⟩;rw[<-h1,h2,h6,Nat.mul_zero,Nat.add_zero]
theorem AeD {A W C:List Nat} {j:Nat} (hA:A.length=j) (hC:val C=0):val ((A++W++C).drop j)=val W/\val ((A++W++C).take j)=val A:=by
 rw[List.append_assoc,List.drop_append_of_le_length (by omega),List.drop_of_length_le (by omega),List.take_append_of_le_length (by omega),zT (by omega),List.nil_append,yZ,hC];simp
theorem Ajm {U VA P Q q V W R:Nat} (h:U=VA+P*W+P*4294967296*(Q*V)) (h2:W=q*V+R):U=VA+P*((q+4294967296*Q)*V+R):=by
 rw[h,h2];grind
section
variable {a b:Nat} {K:AV->Prop}
theorem AhU (n:Nat) (hx:a%2^n=0) (hy:b<2^n) (h:a+b<=18446744073709551615) (hk:K (.int .u64 ((a+b:Nat):Int))):BK .or .u64 (a:Int) .u64 (b:Int) K :=
 Adt n hx hy (show a+b<18446744073709551616 by omega) (IntWalk.u64_in _ (by omega)) hk
theorem Abl (n:Nat) (hx:b%2^n=0) (hy:a<2^n) (h:a+b<=18446744073709551615) (hk:K (.int .u64 ((a+b:Nat):Int))):BK .or .u64 (a:Int) .u64 (b:Int) K:=by
 have e:J0 .or .u64 (a:Int) .u64 (b:Int)=J0 .or .u64 (b:Int) .u64 (a:Int):=by
  simp only[J0,if_true,BitVec.or_comm]
 rw[Nat.add_comm]at hk h;have hh:=AhU (K:=K) n hx hy h hk;unfold BK at hh ⊢;rw[e];exact hh
end
theorem Abk {a:Nat} {K:AV->Prop} (h:a<=18446744069414584319) (hk:K (.int .u64 ((a+4294967296:Nat):Int))):BK .add .u64 (a:Int) .u64 4294967296 K :=
 PR (b:=4294967296) (by omega) hk
theorem aI {l:List Nat} {i e:Nat} {K:List AV->Prop} (he:l[i]? = some e) (h:K (C3 e)):FC (l.map C3) (0+((i:Int)).toNat) 0 1 K :=
 Adq (e:=e) (by rw[Nat.zero_add,Int.toNat_natCast];exact he) rfl h
theorem ApC {l:List Nat} {i:Int} {e:Nat} {K:List AV->Prop} (he:l[i.toNat]? = some e) (h:K (C3 e)):FC (l.map C3) (0+i.toNat) 0 1 K :=
 Adq (e:=e) (by rw[Nat.zero_add];exact he) rfl h
theorem rA {A w C:List Nat} {i e:Nat} {K:List AV->Prop} (n:Nat) (he:w[n]? = some e) (hi:i=A.length+n) (h:K (C3 e)):FC ((A++w++C).map C3) i 0 1 K:=by
 have hn:=(zS he).1;exact Adq (e:=e) (by rw[Aoy hi hn];exact he) rfl h
end Go.c9

namespace Go.c9
def xR (n s:Nat):Nat:=4294967296^(n-3)*(2^(32-s)*4)
theorem Avn (n s:Nat):0<xR n s:=Nat.mul_pos (Nat.pow_pos (by omega)) (Nat.mul_pos (Nat.two_pow_pos _) (by omega))
theorem Alo {a:List Nat} (hD:EK a) {n s d1 d2 d3:Nat} (hn:3<=n) (hl:a.length<=n) (hs:s<=31) (h1:d1=a.getD (n-1) 0) (h2:d2=a.getD (n-2) 0) (h3:d3=a.getD (n-3) 0) :
  ((d1*4294967296+d2)*2^s+d3*2^s/4294967296)/4=val a/xR n s:=by
 obtain ⟨r,hr,hv⟩:=Ac9 hD hn hl;rw[<-h1,<-h2,<-h3]at hv;unfold xR;rw[hv,<-Nat.div_div_eq_div_mul,Nat.add_mul_div_left _ _ (Nat.pow_pos (by omega)),Nat.div_eq_of_lt hr,Nat.zero_add,<-Nat.div_div_eq_div_mul];congr 1;have e:d3+4294967296*(d2+4294967296*d1)=d3+2^(32-s)*(2^s*(d1*4294967296+d2)):=by
  rw[<-Nat.mul_assoc,<-Nat.pow_add,show 32-s+s=32 by omega];omega
 rw[e,Nat.add_mul_div_left _ _ (Nat.two_pow_pos _)];have:=Anf (d:=d3) (s:=s) (by omega)
 rw[uY]at this;rw[this,Nat.mul_comm (2^s)];omega
theorem Alr {a:List Nat} (hD:EK a) {n s d1 d2:Nat} (hn:3<=n) (hl:a.length<=n) (h1:d1=a.getD (n-1) 0) (h2:d2=a.getD (n-2) 0) (o5:val a*2^s<4294967296^n) :
  (d1*4294967296+d2)*2^s<=18446744073709551615:=by
 obtain ⟨r,hr,hv⟩:=Ac9 hD hn hl;rw[<-h1,<-h2]at hv;generalize a.getD (n-3) 0=d3 at *;have e:4294967296^n=4294967296^(n-3)*(4294967296*18446744073709551616):=by
  rw[show n=n-3+3 by omega,Nat.pow_add,show n-3+3-3=n-3 by omega]
 rw[e,hv]at o5;generalize 4294967296^(n-3)=p at *;have h3:p*(4294967296*((d1*4294967296+d2)*2^s))<p*(4294967296*18446744073709551616):=by
  refine Nat.lt_of_le_of_lt ?_ o5;rw[<-Nat.mul_assoc,<-Nat.mul_assoc];refine zR _ ?_;have h5:p*(4294967296*(d2+4294967296*d1))<=p*(d3+4294967296*(d2+4294967296*d1)):=Nat.mul_le_mul_left p (by omega);rw[Nat.mul_assoc,show d1*4294967296+d2=d2+4294967296*d1 by omega];omega
 have:=Nat.lt_of_mul_lt_mul_left (Nat.lt_of_mul_lt_mul_left h3)
 omega
theorem Ach {k s:Nat} (hs:s<=64) (h:k*2^s<=18446744073709551615):k*2^s+2^s<=18446744073709551616:=by
 have e:18446744073709551616=2^(64-s)*2^s:=by rw[<-Nat.pow_add,show 64-s+s=64 by omega]
 have h1:k<2^(64-s):=by
  refine Nat.lt_of_mul_lt_mul_right (a:=2^s) ?_;rw[<-e];omega
 have h2:=zR (2^s) h1;rw[Nat.succ_mul,<-e]at h2;exact h2
theorem Alu {a:List Nat} (hD:EK a) {n s:Nat} (hn:3<=n) (hl:a.length<=n) (hs:s<=31) (o5:val a*2^s<4294967296^n):val a/xR n s<=4611686018427387904:=by
 rw[<-Alo hD hn hl hs rfl rfl rfl];have h1:=Alr hD hn hl rfl rfl o5;have b3:=rT hD (n-3);have h2:=Ach (show s<=64 by omega) h1;obtain ⟨_,h3,_,_⟩:=uZ (s:=s) b3 (by omega);rw[uY]at h3;generalize (a.getD (n-1) 0*4294967296+a.getD (n-2) 0)*2^s=T at *;generalize a.getD (n-3) 0*2^s=U at *;omega
theorem Alv {V K:Nat} (hK:0<K) : ∃ e:Int,(V:Int)=(K:Int)*((V/K:Nat):Int)+e/\0<=e/\e<=K:=by
 refine ⟨((V%K:Nat):Int),?_,by omega,?_⟩
 ·have:=Nat.div_add_mod V K
  have h2:((K*(V/K)+V%K:Nat):Int)=(V:Int):=by rw[this]
  rw[<-h2];simp
 ·have:=Nat.mod_lt V hK
  omega
def Wg (t:Int):Nat:=(t%4294967296).toNat
theorem AiF (t:Int):Wg t<4294967296:=by unfold Wg;omega
theorem Ad4 (t:Int):(Wg t:Int)=t%4294967296:=by unfold Wg;omega
def qY (f g:Int):Prop:=(0<=f/\f<=2147483647 /\ -2147483647<=g/\g<=0)\/(-2147483647<=f/\f<=0/\0<=g/\g<=2147483647)
theorem Ane {f:Int} {d:Nat} (hd:d<4294967296):(0<=f->f<=2147483647->0<=f*d/\f*d<=9223372030412324865)/\(f<=0 -> -2147483647<=f->f*d<=0 /\ -9223372030412324865<=f*d):=by
 constructor
 ·intro h0 h1
  refine ⟨Int.mul_nonneg h0 (by omega),?_⟩;have:f*d<=2147483647*4294967295:=Int.mul_le_mul h1 (by omega) (by omega) (by omega)
  omega
 ·intro h0 h1
  have a1:0<=(-f)*d:=Int.mul_nonneg (by omega) (by omega);have a2:(-f)*d<=2147483647*4294967295:=Int.mul_le_mul (by omega) (by omega) (by omega) (by omega);rw[Int.neg_mul]at a1 a2;omega
theorem qY.rng {f g:Int} (h:qY f g) {d e:Nat} (hd:d<4294967296) (he:e<4294967296):(-9223372030412324865<=f*d/\f*d<=9223372030412324865)/\(-9223372030412324865<=g*e/\g*e<=9223372030412324865) /\ -9223372030412324865<=f*d+g*e/\f*d+g*e<=9223372030412324865:=by
 obtain ⟨a1,a2⟩:=Ane (f:=f) hd;obtain ⟨b1,b2⟩:=Ane (f:=g) he;rcases h with ⟨h1,h2,h3,h4⟩|⟨h1,h2,h3,h4⟩
 ·have:=a1 h1 h2;have:=b2 h4 h3;omega
 ·have:=a2 h2 h1;have:=b1 h3 h4;omega
theorem AiG {V X Y p c f g d e t:Int} (h:V+p*c=f*X+g*Y) (ht:t=f*d+c+g*e):V+p*(t%4294967296)+p*4294967296*(t/4294967296)=f*(X+p*d)+g*(Y+p*e):=by
 have h1:=Int.emod_add_mul_ediv t 4294967296;have h2:p*(t%4294967296)+p*4294967296*(t/4294967296)=p*t:=by
  rw[Int.mul_assoc,<-Int.mul_add,h1]
 have h3:p*t=f*(p*d)+p*c+g*(p*e):=by rw[ht];grind
 have h4:f*(X+p*d)=f*X+f*(p*d):=by rw[Int.mul_add]
 have h5:g*(Y+p*e)=g*Y+g*(p*e):=by rw[Int.mul_add]
 omega
theorem Aq7 {V P:Nat} {c R:Int} (hV:V<P) (h:(V:Int)+P*c=R) (h0:0<=R) (h1:R<P):(V:Int)=R:=by
 have hc:c=0:=by
  rcases Int.lt_trichotomy c 0 with hc|hc|hc
  ·have:(P:Int)*c<=P*(-1):=Int.mul_le_mul_of_nonneg_left (by omega) (by omega)
   omega
  ·exact hc
  ·have:(P:Int)*1<=P*c:=Int.mul_le_mul_of_nonneg_left (by omega) (by omega)
   omega
 subst hc;omega
theorem Ro (x y:Nat):Nat.gcd y (x%y)=Nat.gcd x y:=by
 rw[Nat.gcd_comm x y,Nat.gcd_rec y x];exact Nat.gcd_comm _ _
def zv (neg:Bool) (m:List Nat):Int:=bif neg then -(val m:Int) else (val m:Int)
abbrev rZ (q neg:Bool) (m:List Nat):List AV:=[.bool neg,.sl q (m.map C3)]
abbrev eZ (z:Int):List AV:=rZ false (decide (z<0)) (dg z.natAbs)
theorem M8 (neg:Bool) (m:List Nat):(zv neg m).natAbs=val m:=by cases neg<;>simp [zv]
theorem NI (z:Int):zv (decide (z<0)) (dg z.natAbs)=z:=by
 unfold zv;rw[GO];by_cases h:z<0
 ·simp [h];omega
 ·simp [h];omega
def Sm (n:Nat) (m:List Nat):Prop:=EK m/\m.length<=n
theorem Sm.dg {n V:Nat} (h:V<4294967296^n):Sm n (dg V):=⟨K0 V,nV.2 h⟩
theorem Sm.le {n n':Nat} {m:List Nat} (h:Sm n m) (hn:n<=n'):Sm n' m:=⟨h.1,by have:=h.2;omega⟩
theorem Sm.val {n:Nat} {m:List Nat} (h:Sm n m):val m<4294967296^n:=Nat.lt_of_lt_of_le (NH h.1) (Nat.pow_le_pow_right (by omega) h.2)
theorem Sm.Hj {n:Nat} {m:List Nat} (h:Sm n m):Sm n (Go.c9.dg (Go.c9.val m)):=Sm.dg h.val
theorem MM {z:Int} {b:Bool} {n:Nat} (h1:n=z.natAbs) (h2:b=decide (z<0)):AV.agg [.bool b,.sl false ((dg n).map C3)] = .agg (eZ z):=by rw[h1,h2]
theorem KI (z:Int):EA (.agg (eZ z)):=by
 simp only[EA,GK,and_true,true_and];exact I7 _
theorem mN {z:Int} (h:z<0):true=decide (z<0):=by simp [h]
theorem P4 {z:Int} (h:0<=z):false=decide (z<0):=by simp;omega
theorem yN (n:Nat):Sm n []:=⟨wW,Nat.zero_le _⟩
theorem AgH {n d:Nat} (hn:1<=n) (hd:d<4294967296):Sm n [d]:=⟨WU hd,hn⟩
theorem AoH (b:Bool):zv b []=0:=by cases b<;>rfl
theorem Sm.low {n V:Nat} {m:List Nat} (h:Sm n m) (hV:V<=Go.c9.val m):Sm n (Go.c9.dg V):=Sm.dg (Nat.lt_of_le_of_lt hV h.val)
theorem Sm.mul {n k:Nat} {a b:List Nat} (ha:Sm n a) (hb:Sm k b) {V:Nat} (hV:V=Go.c9.val a*Go.c9.val b):Sm (n+k) (Go.c9.dg V):=by
 refine Sm.dg ?_;rw[hV,Nat.pow_add];exact Nat.mul_lt_mul_of_le_of_lt (Nat.le_of_lt ha.val) hb.val (Nat.pow_pos (by omega))
theorem Sm.add {n:Nat} {a b:List Nat} (ha:Sm n a) (hb:Sm n b) {V:Nat} (hV:V<=Go.c9.val a+Go.c9.val b):Sm (n+1) (Go.c9.dg V):=by
 refine Sm.dg ?_;have h1:=ha.val;have h2:=hb.val;rw[Nat.pow_succ];omega
theorem YP (V:Nat):(dg V).length=0↔V=0:=by rw[List.length_eq_zero_iff,Aep]
theorem MF (m:List Nat):zv false m=(val m:Int):=rfl
theorem oY (m:List Nat):zv true m = -(val m:Int):=rfl
def w3 (z:Int):Int:=if z<0 then -1 else if 0<z then 1 else 0
theorem AgD {z:Int} (h:z<0) : -1=w3 z:=by unfold w3;rw[if_pos h]
theorem AgE {z:Int} (h:0<z):1=w3 z:=by unfold w3;rw[if_neg (by omega),if_pos h]
theorem AcM {z:Int} (h:z=0):0=w3 z:=by unfold w3;rw[if_neg (by omega),if_neg (by omega)]
theorem Aos {n:Nat} (h:n<18446744073709551616):val [n%4294967296,n/4294967296]=n:=(by simp [val];omega)
end Go.c9
