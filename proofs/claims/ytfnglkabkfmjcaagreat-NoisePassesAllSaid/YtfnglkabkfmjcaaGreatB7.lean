/-
  The walk by computation is sound: calls, regions, code, loops, functions.
-/
import Derived.Test.YtfnglkabkfmjcaaGreatB6
import Derived.Calls
import Derived.Test.YtfnglkabkfmjcaaGreatB3
set_option linter.unusedSimpArgs false
set_option linter.unusedVariables false
set_option linter.unnecessarySimpa false
namespace Go.e8
section
variable {σ:FP} {tm:Tm} {M:Mem} {st:St} {L:Lib} {g7:List Nat}
theorem Xb {own:AH} {q:Bool} {d:Nat} : ∀ {e:List AV},F5 e=true->e.mapM (snap own q d)=some e
 | [],_=>rfl
 | v::r,h=>by
  have hv:snap own q d v=some v/\F5 r=true:=by
   cases v<;>simp only[F5]at h<;>first|cases h|exact ⟨by cases d<;>rfl,h⟩
  rw[List.mapM_cons,hv.1,Xb hv.2];rfl
theorem Xd {own:AH} {q:Bool} {d:Nat} : ∀ {e:List AV},UN e=true->e.mapM (snap own q d)=some (e.map nl)
 | [],_=>rfl
 | v::r,h=>by
  have hv:snap own q d v=some (nl v)/\UN r=true:=by
   cases v<;>simp only[UN]at h<;>first|cases h|exact ⟨by cases d<;>rfl,h⟩
  rw[List.mapM_cons,hv.1,Xd hv.2];rfl
theorem Xc {own:AH} {q:Bool} {d:Nat} : ∀ {es:List (List AV)},(∀ e∈es,UN e=true)->es.mapM (λ cs:List AV=>cs.mapM (snap own q d))=some (es.map λ e=>e.map nl)
 | [],_=>rfl
 | e::r,h=>by
  rw[List.mapM_cons,Xd (h e List.mem_cons_self),Xc λ x hx=>h x (List.mem_cons_of_mem _ hx)];rfl
theorem Xa {own:AH} {q:Bool} {d:Nat} : ∀ {es:List (List AV)},(∀ e∈es,F5 e=true)->es.mapM (λ cs:List AV=>cs.mapM (snap own q d))=some es
 | [],_=>rfl
 | e::r,h=>by
  rw[List.mapM_cons,Xb (h e List.mem_cons_self),Xa λ x hx=>h x (List.mem_cons_of_mem _ hx)];rfl
theorem Yz (hs:OU σ st.own M) {q:Bool} {v:AV} {K:AV->Prop} (h:bP q M g7 v K) : ∃ v',(∀ d,snap (st.own.n7 g7) q (d+1) (A7 σ v)=some v')/\K v'/\v ≠ .any/\BS σ v=A7 σ v:=by
 cases v with
 | row key t z off len =>
  have fin : ∀ (z':Nat) (es:List (List AV)),((st.own.n7 g7) (σ key t).1).j5 (σ key t).2=some ⟨z',es⟩->z=z'->A3 es off len (λ es=>K (.sl q es)) -> ∃ v',(∀ d,snap (st.own.n7 g7) q (d+1) (A7 σ (.row key t z off len))=some v')/\K v'/\AV.row key t z off len ≠ .any/\BS σ (.row key t z off len)=A7 σ (.row key t z off len):=by
   intro z' es hb hz h;subst hz;obtain ⟨h1,h2,h3⟩:=h;refine ⟨_,λ d => ?_,h3,(by intro e;cases e),rfl⟩;simp only[A7,snap,EQ,AH.get,hb];rw[if_pos ⟨h1,trivial⟩];simp only;rw[Xc λ e he=>h2 e (List.mem_of_mem_drop (List.mem_of_mem_take he))];rfl
  simp only[bP]at h;split at h
  ·rename_i s z' es hm
   split at h
   ·cases hz:Nat.beq z z'<;>simp only[hz,cond_true,cond_false]at h
    cases hb:ZW s g7<;>simp only[hb,cond_true,cond_false]at h;refine fin z' es ?_ (BL.1 hz) h;have bh:=hs.j5 _ _ _ (DZ hm);rw[hs.site _ _ _ hm]at bh ⊢;rw[dU hb];exact bh
   ·exact h.elim
  ·rename_i s rows hm
   split at h
   ·exact h.elim
   ·rename_i i
    split at h
    ·obtain ⟨z',es,g,h⟩:=h
     cases hz:Nat.beq z z'<;>simp only[hz,cond_true,cond_false]at h;exact fin z' es (hs.j5 key (i+1) (.rw z' es) (by simp [c7,hm,g])) (BL.1 hz) h
    ·rename_i b r
     cases hb:bG (b::r)<;>simp only[hb,cond_true,cond_false]at h;obtain ⟨z',es,g,h⟩:=h;cases hz:Nat.beq z z'<;>simp only[hz,cond_true,cond_false]at h;have g':c7 M key (i+1)=some (.rw z' es):=by simp [c7,hm,g]
     refine fin z' es ?_ (BL.1 hz) h;rw[tQ (hs.low _ _ _ g' rfl) hb];exact hs.j5 key (i+1) (.rw z' es) g'
  ·exact h.elim
 | int k n=>exact ⟨_,λ d=>rfl,h,(by intro e;cases e),rfl⟩
 | bool b=>exact ⟨_,λ d=>rfl,h,(by intro e;cases e),rfl⟩
 | sl l es=>exact ⟨_,λ d=>rfl,h,(by intro e;cases e),rfl⟩
 | ep c=>exact ⟨_,λ d=>rfl,h,(by intro e;cases e),rfl⟩
 | nil=>exact ⟨_,λ d=>rfl,h,(by intro e;cases e),rfl⟩
 | _=>exact (h:False).elim
theorem Yy (hs:OU σ st.own M) {q:Bool} : ∀ {l:List AV} {K:List AV->Prop},nP q M g7 l K -> ∃ l',(∀ d,(l.map (A7 σ)).mapM (snap (st.own.n7 g7) q (d+1))=some l')/\K l'
 | [],K,h=>⟨[],λ d=>rfl,h⟩
 | v::r,K,h=>by
  obtain ⟨v',h1,h2,_⟩:=Yz hs (show bP q M g7 v λ v'=>nP q M g7 r λ r'=>K (v'::r') from h);obtain ⟨l',h3,h4⟩:=Yy hs h2;refine ⟨v'::l',λ d => ?_,h4⟩;rw[List.map_cons,List.mapM_cons,h1 d,h3 d];rfl
theorem Yx (hs:OU σ st.own M) {q:Bool} : ∀ {l:List (List AV)} {K:List (List AV)->Prop},vE q M g7 l K -> ∃ l',(∀ d,(l.map λ cs=>cs.map (A7 σ)).mapM (λ cs:List AV=>cs.mapM (snap (st.own.n7 g7) q (d+1)))=some l')/\K l'
 | [],K,h=>⟨[],λ d=>rfl,h⟩
 | v::r,K,h=>by
  obtain ⟨v',h1,h2⟩:=Yy hs (show nP q M g7 v λ v'=>vE q M g7 r λ r'=>K (v'::r') from h);obtain ⟨l',h3,h4⟩:=Yx hs h2;refine ⟨v'::l',λ d => ?_,h4⟩;rw[List.map_cons,List.mapM_cons,h1 d,h3 d];rfl
theorem uQ {own:AH} {q:Bool} {d:Nat} {k:Nat} : ∀ {rows:List (Option (Nat × List (List AV)))} {i:Nat},(∀ j z es,rows[j]? = some (some (z,es))->(own (σ k (i+j+1)).1).j5 (σ k (i+j+1)).2=some ⟨z,es⟩ /\ ∀ e∈es,F5 e=true) ->
  (B5 σ k i rows).mapM (λ cs:List AV=>cs.mapM (snap own q (d+1)))=some (Z1 q rows)
 | [],i,h=>rfl
 | none::r,i,h=>by
  rw[B5,List.mapM_cons,uQ (i:=i+1) λ j z es hj=>by
   have:=h (j+1) z es (by simpa using hj)
   rwa [show i+(j+1)+1=i+1+j+1 by omega]at this]
  rfl
 | some (z,es)::r,i,h=>by
  rw[B5,List.mapM_cons,uQ (i:=i+1) λ j z es hj=>by
   have:=h (j+1) z es (by simpa using hj)
   rwa [show i+(j+1)+1=i+1+j+1 by omega]at this]
  obtain ⟨h1,h2⟩:=h 0 z es rfl;have:snap own q (d+1) (.row (σ k (i+1)).1 (σ k (i+1)).2 z 0 es.length)=some (.sl q es):=by
   simp only[snap,EQ,AH.get];rw[show (own (σ k (i+1)).1).j5 (σ k (i+1)).2=some ⟨z,es⟩ from h1];simp only[Nat.zero_add,Nat.le_refl,and_self,if_true,List.drop_zero];rw[List.take_of_length_le (Nat.le_refl _),Xa h2];rfl
  rw[List.mapM_cons,this];rfl
theorem Yw (hs:OU σ st.own M) {q:Bool} {v:AV} {K:AV->Prop} (h:iX q M g7 v K) : ∃ v',snap (st.own.n7 g7) q 6 (A7 σ v)=some v'/\K v'/\v ≠ .any/\BS σ v=A7 σ v/\C5 (st.own.n7 g7) q (A7 σ v)=some v':=by
 have wi:bP q M g7 v K -> ∃ v',snap (st.own.n7 g7) q 6 (A7 σ v)=some v'/\K v'/\v ≠ .any/\BS σ v=A7 σ v/\C5 (st.own.n7 g7) q (A7 σ v)=some v':=by
  intro h;obtain ⟨v',h1,h2,h3,h4⟩:=Yz hs h;refine ⟨v',h1 5,h2,h3,h4,?_⟩;have:=h1 5
  cases v<;>first|exact this|exact (h:False).elim
 unfold iX at h;split at h
 ·rename_i key z off len
  split at h
  ·rename_i s z' es hm
   cases hz:Nat.beq z z'<;>simp only[hz,cond_true,cond_false]at h;cases hb:ZW s g7<;>simp only[hb,cond_true,cond_false]at h;cases ho:Nat.beq off 0<;>simp only[ho,cond_true,cond_false]at h;obtain rfl:=BL.1 hz;obtain rfl:=BL.1 ho;obtain ⟨rfl,h⟩:=h;obtain ⟨l',h1,h2⟩:=Yx hs h;have bh:=hs.j5 _ _ _ (DZ hm);rw[hs.site _ _ _ hm]at bh;have key:snap (st.own.n7 g7) q 6 (A7 σ (.row key 0 z 0 es.length))=some (.sl q l'):=by
    simp only[A7,snap,EQ,AH.get,hs.site _ _ _ hm];rw[dU hb,bh];simp only[A5.j5,Nat.zero_add,List.length_map,Nat.le_refl,and_self,if_true,List.drop_zero];rw[List.take_of_length_le (by simp),h1 4];rfl
   exact ⟨_,key,h2,(by intro e;cases e),rfl,key⟩
  ·rename_i s rows hm
   split at h
   ·cases hz:Nat.beq z 1<;>simp only[hz,cond_true,cond_false]at h
    obtain rfl:=BL.1 hz;obtain ⟨rfl,rfl,h1,h2⟩:=h;have bh:=hs.j5 _ _ _ (DZ hm);have key:snap (st.own.n7 []) q 6 (A7 σ (.row key 0 1 0 rows.length))=some (.sl q (Z1 q rows)):=by
     simp only[A7,snap,EQ,AH.get,AH.n7];rw[bh];simp only[A5.j5,Nat.zero_add,E7,Nat.le_refl,and_self,if_true,List.drop_zero];rw[List.take_of_length_le (by rw[E7];exact Nat.le_refl _),uQ (i:=0) λ j z es hj=>⟨by
      have:=hs.j5 key (j+1) (.rw z es) (by simp [c7,hm,hj])
      simpa [A5.j5] using this,h1 z es (zM hj)⟩]
     rfl
    exact ⟨_,key,h2,(by intro e;cases e),rfl,key⟩
   ·exact h.elim
  ·exact wi h
 ·exact wi h
theorem Za (hs:OU σ st.own M) {q:Bool} : ∀ {l:List AV} {K:List AV->Prop},vF q M g7 l K -> ∃ l',(l.map (A7 σ)).mapM (snap (st.own.n7 g7) q 6)=some l'/\K l'
 | [],K,h=>⟨[],rfl,h⟩
 | v::r,K,h=>by
  obtain ⟨v',h1,h2,_⟩:=Yw hs (show iX q M g7 v λ v'=>vF q M g7 r λ r'=>K (v'::r') from h);obtain ⟨l',h3,h4⟩:=Za hs h2;refine ⟨v'::l',?_,h4⟩;rw[List.map_cons,List.mapM_cons,h1,h3];rfl
theorem nO (hs:OU σ st.own M) {q:Bool} {v:AV} {K:AV->Prop} (h:Y5 q M g7 v K) : ∃ v',C5 (st.own.n7 g7) q (BG σ v)=some v'/\K v'/\v ≠ .any/\BG σ v=BS σ v:=by
 cases v with
 | agg cs =>
  simp only[Y5]at h;obtain ⟨l',h1,h2⟩:=Za hs h;refine ⟨.agg l',?_,h2,(by intro e;cases e),rfl⟩;simp only[HK,C5,h1,Option.map_some]
 | j9 vs=>exact (h:False).elim
 | fn p f g cs=>exact (h:False).elim
 | any=>exact (h:False).elim
 | _ =>
  simp only[Y5]at h;obtain ⟨v',h1,h2,h3,h4,h5⟩:=Yw hs h;exact ⟨v',h5,h2,h3,rfl⟩
theorem nR (hr:RX σ tm M st) : ∀ {xs:List AQ} {K:List AV->Prop},iY tm M g7 xs K -> ∃ vs,(xs.map st.ev).mapM (C5 (st.own.n7 g7) true)=some vs/\K vs
 | [],K,h=>⟨[],rfl,h⟩
 | x::r,K,h=>by
  obtain ⟨v',h1,h2,h3,_⟩:=nO hr.sat (show Y5 true M g7 (ex tm x) λ v=>iY tm M g7 r λ vs=>K (v::vs) from h);obtain ⟨l',h4,h5⟩:=nR hr h2;refine ⟨v'::l',?_,h5⟩;rw[List.map_cons,List.mapM_cons,hr.ev rfl h3,h1,h4];rfl
theorem Ane (hs:OU σ st.own M) {v:AV} {K:AV->Prop} (h:nQ M g7 v K) : ∃ v',X3 (st.own.n7 g7) true (BG σ v)=some v'/\K v'/\v ≠ .any/\BG σ v=BS σ v:=by
 cases v with
 | nil=>exact ⟨.nil,rfl,h,(by intro e;cases e),rfl⟩
 | _ =>
  simp only[nQ]at h;obtain ⟨v',h1,h2,h3,h4⟩:=nO hs h;exact ⟨v',h1,h2,h3,h4⟩
theorem Zb (hr:RX σ tm M st) : ∀ {xs:List AQ} {K:List AV->Prop},vG tm M g7 xs K -> ∃ vs,(xs.map st.ev).mapM (X3 (st.own.n7 g7) true)=some vs/\K vs
 | [],K,h=>⟨[],rfl,h⟩
 | x::r,K,h=>by
  obtain ⟨v',h1,h2,h3,_⟩:=Ane hr.sat (show nQ M g7 (ex tm x) λ v=>vG tm M g7 r λ vs=>K (v::vs) from h);obtain ⟨l',h4,h5⟩:=Zb hr h2;refine ⟨v'::l',?_,h5⟩;rw[List.map_cons,List.mapM_cons,hr.ev rfl h3,h1,h4];rfl
theorem gK (hr:RX σ tm M st) : ∀ {xs:List AQ} {K:List AV->Prop},dE tm xs K -> ∃ vs,xs.map st.ev=vs.map (BG σ)/\K vs
 | [],K,h=>⟨[],rfl,h⟩
 | x::r,K,h=>by
  obtain ⟨h1,h2⟩:=mB (show fV (ex tm x) λ v=>dE tm r λ vs=>K (v::vs) from h);obtain ⟨vs,h3,h4⟩:=gK hr h2;exact ⟨ex tm x::vs,by rw[List.map_cons,List.map_cons,hr.ev rfl h1,h3],h4⟩
theorem yO {v:AV} (h:A0 v):A7 σ v=v:=by
 cases v<;>first|rfl|(simp only[A0]at h)
theorem yM : ∀ {l:List AV},CE l->l.map (A7 σ)=l
 | [],_=>rfl
 | v::r,h=>by
  simp only[CE]at h;rw[List.map_cons,yO h.1,yM h.2]
theorem yP {v:AV} (h:A0 v):BS σ v=v:=by
 cases v with
 | agg cs=>simp only[A0]at h;simp only[BS,yM h]
 | fn p f g cs=>simp only[A0]at h
 | _=>exact yO (σ:=σ) h
theorem yN : ∀ {l:List AV},CE l->l.map (BS σ)=l
 | [],_=>rfl
 | v::r,h=>by
  simp only[CE]at h;rw[List.map_cons,yP h.1,yN h.2]
theorem pN {v:AV} (h:A0 v):BG σ v=v:=by
 cases v with
 | j9 cs=>simp only[A0]at h;simp only[BG,yN h]
 | _=>exact yP (σ:=σ) h
theorem Vy {I:List AV->Option (AV × AH)} {vs:List AV} {r:AV} (h:JJ I vs=some r):A0 r:=by
 unfold JJ at h;split at h
 ·split at h
  ·split at h
   ·obtain rfl:=Option.some.inj h
    assumption
   ·cases h
  ·cases h
 ·cases h
theorem Ev.clean {f:Nat} {vs:List AV} {r:AV} (h:Ev L f vs r):A0 r:=by
 obtain ⟨n,h⟩:=h;unfold HC QG at h;split at h
 ·split at h
  ·rename_i r1 r2 h1 h2
   split at h
   ·obtain rfl:=Option.some.inj h
    exact Vy h1
   ·cases h
  ·cases h
 ·exact Vy h
theorem RX.put (h:RX σ tm M st) (d:Nat) {v v':AV} (e:v'=BG σ v):RX σ ((d,v)::tm) M ⟨lg st.tm d v',st.own⟩:=by
 refine ⟨λ j => ?_,h.sat⟩;simp only[tg,jH];cases hb:Nat.beq j d
 ·rw[if_neg (FK.1 hb)];exact h.tm j
 ·rw[if_pos (BL.1 hb)];exact Or.inr e
theorem Xf : ∀ {cs:List AV},iG cs=true->cs.map (BG σ)=cs.map (A7 σ)
 | [],_=>rfl
 | v::r,h=>by
  simp only[iG]at h;cases hv:tS v<;>simp only[hv,cond_true,cond_false]at h
  ·cases h
  ·rw[List.map_cons,List.map_cons,Xf h]
   cases v<;>first|rfl|(simp [tS]at hv)
theorem Aih {v:AV} (h:GS v=true):A7 σ v=v:=by cases v<;>first|rfl|(simp [GS]at h)
theorem Se : ∀ {cs:List AV},cs.all GS=true->cs.map (A7 σ)=cs
 | [],_=>rfl
 | c::r,h=>by
  simp only[List.all_cons,Bool.and_eq_true]at h;rw[List.map_cons,Aih h.1,Se h.2]
theorem Sf : ∀ {vs:List AV},vs.all dq=true->vs.map (BG σ)=vs
 | [],_=>rfl
 | v::r,h=>by
  simp only[List.all_cons,Bool.and_eq_true]at h;rw[List.map_cons,Sf h.2];congr 1;cases v with
  | agg cs=>simp only[BG,BS,Se (show cs.all GS=true from h.1)]
  | _=>first|rfl|(simp [dq,GS]at h)
theorem AlC {r:AV} (hc:A0 r) (hf:OS r):BG σ (An r)=An r:=by
 cases r with
 | agg cs =>
  simp only[An,BG,BS];congr 1;rw[List.map_map];refine List.map_congr_left λ c ox => ?_
  have:=hf c ox
  cases c<;>first|rfl|exact this.elim
 | _=>first|rfl|exact hf.elim
theorem Alz {c:AV} (h:A0 c):A7 σ (HT c)=HT c:=by
 cases c<;>first|(simp only[HT,A7];done)|(simp only[A0]at h;done)
theorem AlA {r:AV} (h:A0 r) (hd:cC r):BG σ (XV r)=XV r:=by
 cases r with
 | agg cs =>
  simp only[A0]at h;have : ∀ cs:List AV,CE cs->(TR cs).map (A7 σ)=TR cs:=by
   intro cs;induction cs with
   | nil=>intro _;simp [TR]
   | cons c l ih =>
    intro h;simp only[CE]at h;rw[TR,List.map_cons,ih h.2,Alz h.1]
  simp only[XV,BG,BS,this cs h]
 | j9=>exact hd.elim
 | fn=>exact hd.elim
 | _=>first|(simp only[XV,HT,BG,BS,A7];done)|(simp only[A0]at h;done)
theorem AlB {r:AV} (h:A0 r) (hd:OS r\/cC r):BG σ (TS r)=TS r:=by
 by_cases hf:OS r
 ·rw[sS hf];exact AlC h hf
 ·rw[Uc hf];exact AlA h (hd.resolve_left hf)
theorem Tc : ∀ {l:List AV},mF l=true->l.map (BG σ)=l
 | [],_=>rfl
 | .int _ _::r,h=>by
  rw[List.map_cons,Tc (l:=r) h];rfl
theorem AfF {K:AV->Mem->Prop} (hr:RX σ tm M st) {op:D4} (h:XE L tm M g7 K op):BR L tm g7 K op st\/(∃ f xs,op = .call f xs)\/(∃ f xs,op = .j7 f xs)\/(∃ x xs,op = .o7 x xs)\/(∃ f xs,op = .n6 f xs)\/(∃ s f xs,op = .x9 s f xs) \/ ∃ s f xs,op = .dv s f xs:=by
 cases op with
 | call f xs=>exact Or.inr (Or.inl ⟨_,_,rfl⟩)
 | j7 f xs=>exact Or.inr (Or.inr (Or.inl ⟨_,_,rfl⟩))
 | o7 x xs=>exact Or.inr (Or.inr (Or.inr (Or.inl ⟨_,_,rfl⟩)))
 | n6 f xs=>exact Or.inr (Or.inr (Or.inr (Or.inr (Or.inl ⟨_,_,rfl⟩))))
 | x9 s f xs=>exact Or.inr (Or.inr (Or.inr (Or.inr (Or.inr (Or.inl ⟨_,_,_,rfl⟩)))))
 | dv s f xs=>exact Or.inr (Or.inr (Or.inr (Or.inr (Or.inr (Or.inr ⟨_,_,_,rfl⟩)))))
 | px s n x v=>exact Or.inl (AfU hr h)
 | vb ne x=>exact Or.inl (AfI hr h)
 | bad=>exact (show False from h).elim
 | gf x=>exact Or.inl (Afy hr h)
 | pz s z b x y=>exact Or.inl (Afs hr h)
 | jg tb x=>exact Or.inl (AfS hr h)
 | si p f xs=>exact Or.inl (AfO hr h)
 | tu f x=>exact Or.inl (AfN hr h)
 | b9 x=>exact Or.inl (AfQ hr h)
 | ag s z=>exact Or.inl (AfW hr h)
 | pick c a b=>exact Or.inl (AfR hr h)
 | bin o x y=>exact Or.inl (Afu hr h)
 | beq ne x y=>exact Or.inl (Aft hr h)
 | tv ne n x y=>exact Or.inl (Afi hr h)
 | un o x=>exact Or.inl (AfV hr h)
 | conv k x=>exact Or.inl (Afz hr h)
 | box s x=>exact Or.inl (Afv hr h)
 | alloc s z=>exact Or.inl (Afj hr h)
 | build z ps=>exact Or.inl (Afx hr h)
 | g8 s z ps=>exact Or.inl (Afw hr h)
 | a7 x o=>exact Or.inl (AfD hr h)
 | qa x o n a=>exact Or.inl (AfE hr h)
 | a5 a z x i=>exact Or.inl (AfG hr h)
 | idx l z a x i=>exact Or.inl (AfH hr h)
 | ld a n x=>exact Or.inl (AfJ hr h)
 | vu a n x=>exact Or.inl (AfK hr h)
 | st n x v=>exact Or.inl (xB hr h)
 | mk s z b ze l c=>exact Or.inl (AfM hr h)
 | jq z x lo hi=>exact Or.inl (AfT hr h)
 | ext x i=>exact Or.inl (AfA hr h)
 | len x=>exact Or.inl (AfL hr h)
 | mm m xs=>exact Or.inl (AfP hr h)
 | app s z b x y=>exact Or.inl (Afk hr h)
theorem oR {K:AV->Mem->Prop} (hr:RX σ tm M st) {op:D4} {d:Option Nat} {g:Option (Nat × Bool)} {l:List AI} {k:List It} {Q:St->Prop} (h:XE L tm M g7 K op) (hg:FL st g=some true)
  (hk : ∀ σ' v v' M' n0,K v M'->v'=BG σ' v->RX σ' tm M' ⟨st.tm,n0⟩->AO L l k ⟨((⟨st.tm,n0⟩:St).dst d v').tm,n0⟩ Q):AO L (⟨d,op,g,g7⟩::l) k st Q:=by
 rcases AfF hr h with ⟨E,σ',v,M',h1,h2,h3,h4⟩|⟨f,xs,rfl⟩|⟨f,xs,rfl⟩|⟨x,xs,rfl⟩|⟨f,xs,rfl⟩|⟨s,f,xs,rfl⟩|⟨s,f,xs,rfl⟩
 ·rw[AeM hg h1,oV]
  have:=hk σ' v _ M' _ h2 h3 h4
  cases d<;>exact this
 ·simp only[XE]at h
  obtain ⟨vs,h1,r,h2,h3⟩:=nR hr h;rw[AeC hg h1 h2];have:=hk σ r r M st.own h3 (pN h2.clean).symm hr
  cases d<;>exact this
 ·simp only[XE]at h
  obtain ⟨vs,h1,h2⟩:=gK hr h;obtain ⟨r,n0,σ',M',h3,h4,h5,h6⟩:=h2 σ st.own hr.sat;rw[<-h1]at h3;rw[AeE hg h3];have:=hk σ' r _ M' n0 h6 rfl ⟨λ j=>by rw[h5 j];exact hr.tm j,h4⟩
  cases d<;>exact this
 ·simp only[XE]at h
  split at h
  ·rename_i f g' e1
   obtain ⟨h0,h⟩:=h;obtain ⟨vs,h1,r,h2,h3⟩:=nR hr h;have e2:=hr.ev e1 (by intro e;cases e);rw[iU,List.map_nil,h0]at e2;rw[AeF hg e2 h1 h2];have:=hk σ r r M st.own h3 (pN h2.clean).symm hr
   cases d<;>exact this
  ·rename_i f g' c cs e1
   obtain ⟨h0,h⟩:=h;obtain ⟨v',h1,h,_,_⟩:=nO hr.sat h;obtain ⟨vs,h2,r,h3,h4⟩:=nR hr h;have e2:=hr.ev e1 (by intro e;cases e);rw[iU,h0]at e2;have h5:(AV.agg (c::cs |>.map (A7 σ))::xs.map st.ev).mapM (C5 st.own true)=some (v'::vs):=by
    rw[List.mapM_cons,show C5 st.own true (AV.agg (c::cs |>.map (A7 σ)))=some v' from h1,show (xs.map st.ev).mapM (C5 st.own true)=some vs from h2];rfl
   rw[AeD hg e2 h5 h3];have:=hk σ r r M st.own h4 (pN h3.clean).symm hr
   cases d<;>exact this
  ·rename_i f g' cs e1
   cases ho:iG cs<;>simp only[ho,cond_true,cond_false]at h;obtain ⟨h0,h⟩:=h;obtain ⟨vs,h1,h2⟩:=gK hr h;rw[GU]at h2;obtain ⟨r,n0,σ',M',h3,h4,h5,h6⟩:=h2 σ st.own hr.sat;rw[List.map_append,<-h1,Xf (σ:=σ) ho]at h3;have e2:=hr.ev e1 (by intro e;cases e);rw[iU,h0]at e2;rw[AeI hg e2 h3];have:=hk σ' r _ M' n0 h6 rfl ⟨λ j=>by rw[h5 j];exact hr.tm j,h4⟩
   cases d<;>exact this
  ·exact h.elim
 ·simp only[XE]at h
  obtain ⟨vs,h1,h2⟩:=gK hr h;cases ho:vs.all dq<;>simp only[ho,cond_true,cond_false]at h2;obtain ⟨r,h3,h4,h5⟩:=h2;have e1:xs.map st.ev=vs:=by rw[h1];exact Sf ho
  rw[AeG hg (by rw[e1];exact ho) (by rw[e1];exact h3) h4];have:=hk σ (TS r) (TS r) M st.own h5 (AlB h3.clean h4).symm hr
  cases d<;>exact this
 ·simp only[XE]at h
  cases Hg:EY s<;>simp only[Hg,cond_true,cond_false]at h;obtain ⟨vs,h1,z,es,n,h2,rfl,h3⟩:=Zb hr h;obtain ⟨k',g1,g2,g3⟩:=HO h3;refine AeH hg h1 h2 ?_;rw[oV];have:=hk (C4 σ k' λ_=>(s,st.own.k6 s)) _ (.row s (st.own.k6 s) z 0 es.length) _ _ g3 (by simp only[DG,BV]) (hr.gx (q:=s) g1 g2 (.rw z es) trivial rfl (λ_=>Hg))
  cases d<;>exact this
 ·simp only[XE]at h
  obtain ⟨vs,h1,h2⟩:=gK hr h;split at h2
  ·rename_i key rest
   cases hi:mF rest<;>simp only[hi,cond_true,cond_false]at h2;obtain ⟨cells,iu,kd,n,g1,g2,g3,g4,g5⟩:=h2;have gp:=hr.sat.site _ _ _ g1;have bh:=hr.sat.j5 _ _ _ (DZ g1);rw[gp]at bh;simp only[A5.j5,I0 g2]at bh;have ck:xs.map st.ev = .ptr s (σ key 0).2 0 0::rest:=by
    rw[h1,List.map_cons,EI,gp,Tc hi]
   have hE:=g4 (σ key 0).2 (st.own s) bh;refine AeJ hg (by rw[ck];exact hE) ?_;rw[oV];have:=hk σ (.int kd n) (.int kd n) _ _ g5 rfl (hr.Qa g1 trivial (.bx iu) trivial (λ h=>by cases h))
   simp only[A5.j5,I0 g3]at this;cases d<;>exact this
  ·exact h2.elim
theorem Akq (hr:RX σ tm M st) {g:Nat} {w:Bool} {b:Bool} (e:tg tm g = .bool b):FL st (some (g,w))=some (b == w):=by
 rcases hr.tm g with h|h
 ·rw[e]at h;cases h
 ·rw[e]at h
  simp only[FL,h,G3]
theorem Akr (hr:RX σ tm M st) {g:Nat} {w:Bool} (e:tg tm g = .j9 []):FL st (some (g,w))=some false:=by
 rcases hr.tm g with h|h
 ·rw[e]at h;cases h
 ·rw[e]at h
  simp only[FL,h,IL,List.map_nil]
theorem vS {key:Nat} : ∀ (tm:Tm) (j:Nat),tg (Fj key tm) j = .any\/tg (Fj key tm) j=tg tm j
 | [],_=>Or.inl rfl
 | (i,v)::r,j=>by
  simp only[Fj];cases hc:ZG key v<;>cases hb:Nat.beq j i;all_goals simp only[cond_true,cond_false,tg,hb]
  ·exact vS r j
  ·exact Or.inr trivial
  ·exact vS r j
  ·exact Or.inl trivial
theorem An3 {v:AV} {K:Tm->Prop} (h:xk v tm K) : ∃ da,(∀ j,tg da j = .any\/tg da j=tg tm j)/\K da:=by
 unfold xk at h;split at h
 ·rw[dG]at h
  exact ⟨_,λ j=>vS _ j,h⟩
 ·exact ⟨_,λ j=>Or.inr rfl,h⟩
theorem xC {k:List It} {Q:Tm->Mem->Prop} : ∀ {l:List AI} {K:Tm->Mem->Prop} {tm:Tm} {M:Mem},XO L l K tm M->(∀ da M',K da M'->AA L k da M' Q)->wF L l k tm M Q
 | [],K,tm,M,h,hk=>λ σ st hr=>AeK.2 (hk tm M h σ st hr)
 | o::l,K,tm,M,h,hk=>by
  intro σ st hr;have h:XI L o (XO L l) K tm M:=h;have ih : ∀ da M',XO L l K da M'->wF L l k da M' Q:=λ da M' h'=>xC h' hk
  have some_ : ∀ (d:Nat) (op:D4) (g:Option (Nat × Bool)) (g7:List Nat),FL st g=some true->XE L tm M g7 (λ v M=>XO L l K ((d,v)::tm) M) op->AO L (⟨some d,op,g,g7⟩::l) k st (SQ Q):=by
   intro d op g g7 hg hx;refine oR hr hx hg ?_;intro σ' v v' M' n0 h1 h2 h3;exact ih _ _ h1 σ' _ (h3.put d h2)
  have Ef : ∀ (d:Nat) (u:AV) (op:D4) (g7:List Nat),XE L tm M g7 (λ v M=>xk u tm λ tm=>XO L l K ((d,v)::tm) M) op->AO L (⟨some d,op,none,g7⟩::l) k st (SQ Q):=by
   intro d u op g7 hx;refine oR hr hx rfl ?_;intro σ' v v' M' n0 h1 h2 h3;obtain ⟨da,g1,g2⟩:=An3 h1;exact ih _ _ g2 σ' _ ((show RX σ' da M' ⟨st.tm,n0⟩ from ⟨λ j=>(g1 j).elim Or.inl λ e=>by rw[e];exact h3.tm j,h3.sat⟩).put d h2)
  have none_ : ∀ (op:D4) (g:Option (Nat × Bool)) (g7:List Nat),FL st g=some true->XE L tm M g7 (λ_ M=>XO L l K tm M) op->AO L (⟨none,op,g,g7⟩::l) k st (SQ Q):=by
   intro op g g7 hg hx;refine oR hr hx hg ?_;intro σ' v v' M' n0 h1 h2 h3;exact ih _ _ h1 σ' _ h3
  have Cd : ∀ (d:Option Nat) (op:D4) (g:Option (Nat × Bool)) (g7:List Nat),FL st g=some false->(match d with|some d=>XO L l K ((d,.j9 [])::tm) M|none=>XO L l K tm M)->AO L (⟨d,op,g,g7⟩::l) k st (SQ Q):=by
   intro d op g g7 hg hx;rw[AeL hg];cases d with
   | none=>exact ih _ _ hx σ _ hr
   | some d=>exact ih _ _ hx σ _ (hr.put d rfl)
  obtain ⟨d,op,g,g7⟩:=o;cases g with
  | none =>
   cases d with
   | none=>exact none_ op none g7 rfl h
   | some d =>
    cases op with
    | app s z b x y=>exact Ef d (ex tm x) (.app s z b x y) g7 h
    | _=>exact some_ d _ none g7 rfl h
  | some gw =>
   obtain ⟨g,w⟩:=gw;have h:(match tg tm g with
    | .bool b=>fB (b == w) λ c=>match c,d with
     | true,some d=>XE L tm M g7 (λ v M=>XO L l K ((d,v)::tm) M) op
     | true,none=>XE L tm M g7 (λ_ M=>XO L l K tm M) op
     | false,some d=>XO L l K ((d,.j9 [])::tm) M
     | false,none=>XO L l K tm M
    | .j9 []=>match d with
     | some d=>XO L l K ((d,.j9 [])::tm) M
     | none=>XO L l K tm M
    | _=>False):=by cases d<;>cases op<;>exact h
   split at h
   ·rename_i b e
    rw[YK]at h;have hg:=Akq hr (w:=w) e;cases hb:(b == w)<;>rw[hb]at h hg
    ·exact Cd d op _ g7 hg (by cases d<;>exact h)
    ·cases d with
     | none=>exact none_ op _ g7 hg h
     | some d=>exact some_ d op _ g7 hg h
   ·rename_i e
    exact Cd d op _ g7 (Akr hr e) (by cases d<;>exact h)
   ·exact h.elim
theorem oS {Q:Tm->Mem->Prop} : ∀ {n:Nat} {k:List It} {tm:Tm} {M:Mem},XK L Q n k tm M->AA L k tm M Q
 | 0,k,tm,M,h=>h
 | n+1,[],tm,M,h=>λ σ st hr=>Aew.2 ⟨σ,tm,M,hr,h⟩
 | n+1,it::k,tm,M,h=>by
  have h:XS L Q (XK L Q n) (it::k) tm M:=h;have ih : ∀ k tm M,XK L Q n k tm M->AA L k tm M Q:=λ k tm M h=>oS h
  intro σ st hr;cases it with
  | j5 id=>exact Aeo.2 (ih _ _ _ h σ st hr)
  | mr ts ss =>
   simp only[XS,Aj9,dG]at h;cases ss with
   | cons s r=>exact h.elim
   | nil =>
    refine Aes.2 (ih _ _ _ h σ _ ⟨λ j => ?_,hr.sat⟩);rw[jE,eI,xM,pD,Bool.false_or];cases hc:ts.contains j
    ·simp only[Bool.false_eq_true,if_false,cond_false]
     exact hr.tm j
    ·exact Or.inl rfl
  | lp c=>exact h σ st hr
  | code c =>
   cases c with
   | skip=>exact AeB.2 (ih _ _ _ h σ st hr)
   | ops l d=>exact Aex.2 (xC h (λ da M' h'=>ih _ _ _ h') σ st hr)
   | dr c ts ss=>exact Aer.2 (ih _ _ _ h σ st hr)
   | scope c=>exact Aez.2 (ih _ _ _ h σ st hr)
   | seq a b=>exact AeA.2 (ih _ _ _ h σ st hr)
   | cond x a b =>
    simp only[XS]at h;split at h
    ·rename_i b' e
     rw[YK]at h;rw[Aeq (hr.ev e (by intro e;cases e))];cases b'
     ·simpa using ih _ _ _ h σ st hr
     ·simpa using ih _ _ _ h σ st hr
    ·exact h.elim
   | block id c=>exact Aep.2 (ih _ _ _ h σ st hr)
   | loop c=>exact Aeu.2 (wE.1 (h σ st hr))
   | exit id =>
    simp only[XS]at h;split at h
    ·rename_i k' e
     exact (Aet e).2 (ih _ _ _ h σ st hr)
    ·exact h.elim
   | ret=>exact Aey.2 ⟨σ,tm,M,hr,h⟩
theorem AmH (hr:RX σ tm M st) {r:KE} {K:AV->Prop} (h:iS tm M r K) : ∃ v,E8 st r=some (BG σ v)/\K v/\BG σ v=BS σ v:=by
 cases r with
 | tmp t =>
  simp only[iS]at h;obtain ⟨h1,h2,h3⟩:=Ud (σ:=σ) h;refine ⟨_,?_,h3,h2⟩;rcases hr.tm t with e|e
  ·exact absurd e h1
  ·simp only[E8,e]
   cases hv:tg tm t<;>rw[hv]at h h1<;>first|rfl|exact (h:False).elim
 | cell t agg n =>
  simp only[iS]at h;split at h
  ·rename_i key i j e
   split at h
   ·rename_i s cs hm
    cases hi:Nat.beq i 0<;>simp only[hi,cond_true,cond_false]at h;obtain rfl:=BL.1 hi;split at h
    ·rename_i ds hp
     rw[GU]at h;rcases hr.tm t with e'|e'
     ·rw[e]at e';cases e'
     ·have hs:=hr.sat.site _ _ _ hm
      have bh:=hr.sat.j5 _ _ _ (DZ hm);rw[hs]at bh;have flat : ∀ v,JC agg (ds.map (A7 σ))=some (BG σ v)->E8 st (.cell t agg n)=some (BG σ v):=by
       intro v hv;simp only[E8,e',e,EI,AH.sf,AH.get,hs,bh,A5.j5,List.getElem?_cons_zero,iJ hp,hv]
      cases agg
      ·simp only[qt]at h
       split at h
       ·rename_i c
        obtain ⟨_,h1,h2⟩:=Ue (σ:=σ) h;refine ⟨c,flat c (by rw[h1];rfl),h2,?_⟩;rw[h1];cases c<;>first|rfl|exact (h:False).elim
       ·exact h.elim
      ·exact ⟨.agg ds,flat _ rfl,h,rfl⟩
    ·exact h.elim
   ·exact h.elim
  ·exact h.elim
theorem uN (hr:RX σ tm M st) : ∀ {l:List KE} {K:List AV->Prop},nC tm M l K -> ∃ vs,l.mapM (E8 st)=some (vs.map (BG σ))/\K vs/\vs.map (BG σ)=vs.map (BS σ)
 | [],K,h=>⟨[],rfl,h,rfl⟩
 | r::l,K,h=>by
  obtain ⟨v,h1,h2,h3⟩:=AmH hr (show iS tm M r λ v=>nC tm M l λ vs=>K (v::vs) from h);obtain ⟨vs,h4,h5,h6⟩:=uN hr h2;exact ⟨v::vs,by rw[List.mapM_cons,h1,h4];rfl,h5,by rw[List.map_cons,List.map_cons,h3,h6]⟩
theorem Yv (hs:OU σ st.own M) {q:Bool} : ∀ {l:List AV} {K:List AV->Prop},vD q M l K -> ∃ l',(l.map (BG σ)).mapM (C5 st.own q)=some l'/\K l' /\ ∀ v∈l,BG σ v=BS σ v
 | [],K,h=>⟨[],rfl,h,λ v hv=>by cases hv⟩
 | v::r,K,h=>by
  obtain ⟨v',h1,h2,_,h0⟩:=nO hs (show Y5 q M [] v λ v'=>vD q M r λ r'=>K (v'::r') from h);obtain ⟨l',h3,h4,h5⟩:=Yv hs h2;refine ⟨v'::l',?_,h4,λ u hu => ?_⟩
  ·rw[List.map_cons,List.mapM_cons,show C5 st.own q (BG σ v)=some v' from h1,h3];rfl
  ·rcases List.mem_cons.1 hu with rfl|hu
   ·exact h0
   ·exact h5 u hu
theorem Anh {own:AH} {q:Bool} {v v':AV} (h:C5 own q v=some v'):Z2 own q v=some v':=by
 cases v with
 | j9 vs=>simp [C5,snap]at h
 | _=>exact h
theorem AlG {f:AV->Option AV} {x y:AV} {r l':List AV} (h:(x::y::r).mapM f=some l') : ∃ a b c,l'=a::b::c:=by
 rw[List.mapM_cons,List.mapM_cons]at h;cases hx:f x with
 | none=>rw[hx]at h;cases h
 | some a =>
  cases hy:f y with
  | none=>rw[hx,hy]at h;cases h
  | some b =>
   cases hr:r.mapM f with
   | none=>rw[hx,hy,hr]at h;cases h
   | some c =>
    rw[hx,hy,hr]at h;exact ⟨a,b,c,(Option.some.inj h).symm⟩
theorem wZ {fn:AFn} {r:AV} (hr:RX σ tm M st) (h:ZD fn r tm M):fH fn r st:=by
 unfold ZD at h;obtain ⟨vs,h1,h2,h3⟩:=uN hr h;obtain ⟨l',h4,h5,h6⟩:=Yv hr.sat h2;unfold fH;rw[h1,Option.map_some,Option.bind_some];match vs,l',h4,h5 with
 | [],l',h4,h5 =>
  obtain rfl:=Option.some.inj h4;obtain ⟨e,hc⟩:=h5;exact ⟨by rw[<-e];rfl,hc⟩
 | [v],l',h4,h5 =>
  rw[List.map_cons,List.map_nil,List.mapM_cons]at h4;cases hv:C5 st.own false (BG σ v) with
  | none=>rw[hv]at h4;cases h4
  | some v' =>
   rw[hv]at h4;obtain rfl:=Option.some.inj h4;obtain ⟨e,hc⟩:=h5;exact ⟨by rw[<-e];exact Anh hv,hc⟩
 | v::u::w,l',h4,h5 =>
  obtain ⟨a,b,c,rfl⟩:=AlG (show List.mapM (C5 st.own false) (BG σ v::BG σ u::w.map (BG σ))=some l' from h4);obtain ⟨e,hc⟩:=h5;refine ⟨?_,hc⟩;rw[<-e];have h4:List.mapM (C5 st.own false) (BG σ v::BG σ u::w.map (BG σ))=some (a::b::c):=h4;show Option.map AV.j9 (List.mapM (C5 st.own false) (BG σ v::BG σ u::w.map (BG σ)))=_;rw[h4];rfl
def ZI:AV->Bool
 | .agg cs=>D8 cs
 | v=>wi v
def O3:List AV->Bool
 | []=>true
 | v::r=>bif ZI v then O3 r else false
theorem kZ {v:AV} (h:ZI v=true):BG σ v=v:=by
 cases v with
 | agg cs=>simp only[ZI]at h;simp only[BG,BS,I0 h]
 | _=>first|rfl|cases h
theorem fZ {σ:FP} : ∀ {vs:List AV} {i:Nat},O3 vs=true -> ∀ j,j8 (C0 i vs) j=BG σ (j8 (C0 i vs) j)
 | [],_,_,_=>rfl
 | v::r,i,h,j=>by
  simp only[O3]at h;cases hv:ZI v<;>simp only[hv,cond_true,cond_false]at h
  ·cases h
  ·simp only[AkS,jG]
   split
   ·exact (kZ hv).symm
   ·exact fZ h j
theorem FU.x {f:Nat} {fn:AFn} {vs:List AV} {r:AV} (hL:L f=some fn) (hp:Nat.beq vs.length fn.cu=true) (hd:O3 vs=true) (h:AA L [.code fn.body] (C0 0 vs) [] (ZD fn r)):FU L f vs r:=by
 refine FU.fwd hL (BL.1 hp) (Aev (h (λ_ _=>(0,0)) ⟨C0 0 vs,AH.emp⟩ ⟨λ j=>Or.inr ?_,?_⟩) ?_)
 ·rw[OL];exact fZ hd j
 ·exact ⟨(λ_ _ _ e=>by cases e),(λ_ _ _ e=>by simp [c7,g9]at e),(λ_ _ _ e=>by simp [c7,g9]at e),(λ_ _ _ _ _ _ e=>by simp [c7,g9]at e),(λ_ _ _ e=>by simp [c7,g9]at e)⟩
 ·rintro s ⟨σ,tm,M,hr,hq⟩
  exact wZ hr hq
theorem Ev.x {f:Nat} {fn:AFn} {vs:List AV} {r:AV} (hL:L f=some fn) (hp:Nat.beq vs.length fn.cu=true) (hd:O3 vs=true) (h:AA L [.code fn.body] (C0 0 vs) [] (ZD fn r)) (hs:fn.sn=false:=by rfl):Ev L f vs r:=(FU.x hL hp hd h).ev hL hs
def F6:List (Nat × Nat)->Nat->Nat
 | [],k=>k
 | (a,b)::r,k=>bif Nat.beq k a then b else F6 r k
def nF (τ:List (Nat × Nat)):AV->AV
 | .row k t z o n => .row (F6 τ k) t z o n
 | .ptr k t i j => .ptr (F6 τ k) t i j
 | v=>v
def ZZ (τ:List (Nat × Nat)):List AV->List AV
 | []=>[]
 | v::r=>nF τ v::ZZ τ r
def eA (τ:List (Nat × Nat)):AV->AV
 | .agg cs => .agg (ZZ τ cs)
 | .fn p f g cs => .fn p f g (ZZ τ cs)
 | v=>nF τ v
def nH (τ:List (Nat × Nat)):List AV->List AV
 | []=>[]
 | v::r=>eA τ v::nH τ r
def nG (τ:List (Nat × Nat)):AV->AV
 | .j9 cs => .j9 (nH τ cs)
 | v=>eA τ v
def nI (τ:List (Nat × Nat)):List (List AV)->List (List AV)
 | []=>[]
 | v::r=>ZZ τ v::nI τ r
def OD (τ:List (Nat × Nat)):A5->A5
 | .bx cs => .bx (ZZ τ cs)
 | .rw z es => .rw z es
 | .bs z es => .bs z (nI τ es)
 | .mx rows => .mx rows
 | .hx i v rows => .hx i v rows
 | .vw w rows => .vw w rows
variable {τ:List (Nat × Nat)}
theorem iT : ∀ l:List AV,ZZ τ l=l.map (nF τ)
 | []=>rfl
 | v::r=>by rw[ZZ,iT r];rfl
theorem Wl : ∀ l:List AV,nH τ l=l.map (eA τ)
 | []=>rfl
 | v::r=>by rw[nH,Wl r];rfl
theorem nT (v:AV):A7 (λ k t=>σ (F6 τ k) t) v=A7 σ (nF τ v):=by cases v<;>rfl
theorem vO (v:AV):BS (λ k t=>σ (F6 τ k) t) v=BS σ (eA τ v):=by
 cases v with
 | agg cs=>simp only[BS,eA,iT,List.map_map];exact congrArg AV.agg (List.map_congr_left λ v _=>nT v)
 | fn p f g cs=>simp only[BS,eA,iT,List.map_map];exact congrArg (AV.fn p f g) (List.map_congr_left λ v _=>nT v)
 | _=>rfl
theorem Ano (v:AV):BG (λ k t=>σ (F6 τ k) t) v=BG σ (nG τ v):=by
 cases v with
 | j9 cs=>simp only[BG,nG,Wl,List.map_map];exact congrArg AV.j9 (List.map_congr_left λ v _=>vO v)
 | agg cs=>exact vO (.agg cs)
 | fn p f g cs=>exact vO (.fn p f g cs)
 | _=>rfl
theorem Wm : ∀ l:List (List AV),nI τ l=l.map (ZZ τ)
 | []=>rfl
 | v::r=>by rw[nI,Wm r];rfl
theorem iC {k:Nat} : ∀ (rows:List (Option (Nat × List (List AV)))) (i:Nat),B5 (λ k t=>σ (F6 τ k) t) k i rows=B5 σ (F6 τ k) i rows
 | [],i=>rfl
 | none::r,i=>by rw[B5,B5,iC r]
 | some (z,es)::r,i=>by rw[B5,B5,iC r]
theorem Agc (c:A5) (k:Nat):c.j5 (λ k t=>σ (F6 τ k) t) k=(OD τ c).j5 σ (F6 τ k):=by
 cases c with
 | bx cs =>
  simp only[A5.j5,OD,iT,List.length_map,List.map_map];rw[List.map_congr_left λ v _=>nT v];rfl
 | rw z es=>rfl
 | bs z es =>
  simp only[A5.j5,OD,Wm,List.map_map];congr 1;refine List.map_congr_left λ cs _ => ?_
  simp only[Function.comp,iT,List.map_map];exact List.map_congr_left λ v _=>nT v
 | mx rows=>simp only[A5.j5,OD,iC]
 | hx i v rows=>simp only[A5.j5,OD,iC]
 | vw w rows=>simp only[A5.j5,OD,iC]
def Aq (k s:Nat) (c:A5):Mem->Mem
 | []=>[(k,s,c)]
 | (j,s',c')::r=>bif Nat.beq k j then (k,s,c)::r else (j,s',c')::Aq k s c r
def po:Mem->Mem
 | []=>[]
 | (k,s,c)::r=>Aq k s c (po r)
theorem Su (k s:Nat) (c:A5) (j:Nat) : ∀ M:Mem,g9 (Aq k s c M) j=bif Nat.beq j k then some (s,c) else g9 M j
 | []=>rfl
 | (i,s',c')::r=>by
  simp only[Aq];cases hk:Nat.beq k i
  ·simp only[cond_false,g9,Su k s c j r]
   cases hj:Nat.beq j i<;>cases hjk:Nat.beq j k<;>simp only[cond_true,cond_false];exact absurd ((BL.1 hjk).symm.trans (BL.1 hj)) (FK.1 hk)
  ·obtain rfl:=BL.1 hk
   simp only[cond_true,g9];cases Nat.beq j k<;>rfl
theorem dR (j:Nat) : ∀ M:Mem,g9 (po M) j=g9 M j
 | []=>rfl
 | (k,s,c)::r=>by simp only[po,Su,dR j r,g9]
theorem mL (k t:Nat):c7 (po M) k t=c7 M k t:=by simp only[c7,dR]
def Ao (τ:List (Nat × Nat)) (M:Mem):List (Nat × Nat × A5)->List (Option (Nat × A5))
 | []=>[]
 | (k,_,_)::r=>g9 M (F6 τ k)::Ao τ M r
def Ap (τ:List (Nat × Nat)):List (Nat × Nat × A5)->List (Option (Nat × A5))
 | []=>[]
 | (_,s,c)::r=>some (s,OD τ c)::Ap τ r
def Kk (tm:Tm):Tm->List AV
 | []=>[]
 | (j,_)::r=>tg tm j::Kk tm r
def Kl (τ:List (Nat × Nat)):Tm->List AV
 | []=>[]
 | (_,v)::r=>nG τ v::Kl τ r
def mQ:List Nat->Bool
 | []=>true
 | k::r=>bif YR k r then false else mQ r
def keys (τ:List (Nat × Nat)):Mem->List Nat
 | []=>[]
 | (k,_,_)::r=>F6 τ k::keys τ r
theorem Ss : ∀ {M':Mem} {M:Mem},Ao τ M M'=Ap τ M' -> ∀ k s c,g9 M' k=some (s,c)->g9 M (F6 τ k)=some (s,OD τ c)
 | [],_,_,_,_,_,e=>by cases e
 | (i,s',c')::r,M,h,k,s,c,e=>by
  simp only[Ao,Ap,List.cons.injEq]at h;simp only[g9]at e;cases hb:Nat.beq k i<;>simp only[hb,cond_true,cond_false]at e
  ·exact Ss h.2 k s c e
  ·simp only[Option.some.injEq,Prod.mk.injEq]at e
   obtain ⟨rfl,rfl⟩:=e;rw[BL.1 hb];exact h.1
theorem sX : ∀ {M:Mem} {k s:Nat} {c:A5},g9 M k=some (s,c)->YR (F6 τ k) (keys τ M)=true
 | (i,s',c')::r,k,s,c,e=>by
  simp only[g9]at e;simp only[keys,YR];cases hb:Nat.beq k i<;>simp only[hb,cond_true,cond_false]at e
  ·rw[sX e];cases Nat.beq (F6 τ k) (F6 τ i)<;>rfl
  ·rw[BL.1 hb];simp
theorem Wv : ∀ {M:Mem},mQ (keys τ M)=true -> ∀ {k k' s s':Nat} {c c':A5},g9 M k=some (s,c)->g9 M k'=some (s',c')->F6 τ k=F6 τ k'->k=k'
 | [],_,_,_,_,_,_,_,e,_,_=>by cases e
 | (i,s0,c0)::r,h,k,k',s,s',c,c',e,e',hk=>by
  simp only[keys,mQ]at h;cases hm:YR (F6 τ i) (keys τ r)<;>simp only[hm,cond_true,cond_false]at h
  ·simp only[g9]at e e'
   cases hb:Nat.beq k i<;>cases m6:Nat.beq k' i<;>simp only[hb,m6,cond_true,cond_false]at e e'
   ·exact Wv h e e' hk
   ·obtain rfl:=BL.1 m6
    have:=sX (τ:=τ) e
    rw[hk,hm]at this;cases this
   ·obtain rfl:=BL.1 hb
    have:=sX (τ:=τ) e'
    rw[<-hk,hm]at this;cases this
   ·exact (BL.1 hb).trans (BL.1 m6).symm
  ·cases h
theorem Yj : ∀ {da:Tm} {tm:Tm},Kk tm da=Kl τ da -> ∀ j,tg da j = .any\/tg tm j=nG τ (tg da j)
 | [],_,_,_=>Or.inl rfl
 | (i,v)::r,tm,h,j=>by
  simp only[Kk,Kl,List.cons.injEq]at h;simp only[tg];cases hb:Nat.beq j i<;>simp only[cond_true,cond_false]
  ·exact Yj h.2 j
  ·rw[BL.1 hb];exact Or.inr h.1
def bg (ts:List Nat) (tm:Tm):Tm:=match ts with
 | []=>tm
 | t::ts=>ye (mask 0 (t::ts)) tm
def W8 (τ:List (Nat × Nat)) (tm:Tm) (M:Mem) (da:Tm) (M':Mem):Prop :=
 fT (ye 0 da) λ l=>fM (po M') λ m=>Kk tm l=Kl τ l/\Ao τ M m=Ap τ m/\mQ (keys τ m)=true
theorem B1 {k:List It} {da:Tm} {M':Mem} {Q:Tm->Mem->Prop} (τ:List (Nat × Nat)) (he:W8 τ tm M da M') (h:AA L k da M' Q):AA L k tm M Q:=by
 unfold W8 at he;rw[dG,O5]at he;obtain ⟨ht,hm,hn⟩:=he;intro σ st hr;have hg : ∀ k s c,g9 M' k=some (s,c)->g9 M (F6 τ k)=some (s,OD τ c):=λ k s c e=>Ss hm k s c (by rw[dR];exact e)
 have vh : ∀ k t c,c7 M' k t=some c->c7 M (F6 τ k) t=some (OD τ c):=by
  intro k t c e;obtain ⟨s,c0,g1,g2,g3⟩:=HU e;have:=hg k s c0 g1
  cases t with
  | zero=>rw[g2 rfl];exact DZ this
  | succ i =>
   obtain ⟨rows,z,es,(rfl|⟨a,v,rfl⟩)|⟨w,rfl⟩,hr,rfl⟩:=g3 i rfl
   ·simp [c7,this,OD,hr]
   ·simp [c7,this,OD,hr]
   ·simp [c7,this,OD,hr]
 refine h (λ k t=>σ (F6 τ k) t) st ⟨λ j => ?_,⟨?_,?_,?_,?_,?_⟩⟩
 ·have:=Yj ht j
  rw[jE,pD,cond_false]at this;rcases this with e|e
  ·exact Or.inl e
  ·rcases hr.tm j with e'|e'
   ·left
    rw[e']at e;cases hv:tg da j<;>rw[hv]at e<;>first|rfl|cases e
   ·right
    rw[e',e,Ano]
 ·intro k s c e;exact hr.sat.site _ _ _ (hg k s c e)
 ·intro k t c e;rw[Agc];exact hr.sat.j5 _ _ _ (vh k t c e)
 ·intro k t c e;exact hr.sat.old _ _ _ (vh k t c e)
 ·intro k t k' t' c c' e e' hk
  obtain ⟨q1,q2⟩:=hr.sat.inj _ _ _ _ _ _ (vh _ _ _ e) (vh _ _ _ e') hk;obtain ⟨s,c0,g,_⟩:=HU e;obtain ⟨s',c0',g',_⟩:=HU e';exact ⟨Wv hn (by rw[dR];exact g) (by rw[dR];exact g') q1,q2⟩
 ·intro k t c e hw
  exact hr.sat.low _ _ _ (vh k t c e) (by cases c<;>exact hw)
theorem BF {k:List It} {da:Tm} {M':Mem} {Q:Tm->Mem->Prop} (τ:List (Nat × Nat)) (h:AA L k da M' Q) (he:W8 τ tm M da M':=by (conv=>whnf);exact ⟨rfl,rfl,rfl⟩):AA L k tm M Q:=B1 τ he h
theorem wC {k:List It} {Q:Tm->Mem->Prop} (h:AA L k (ye 0 tm) (po M) Q):AA L k tm M Q:=by
 intro σ st hr;refine h σ st ⟨λ j => ?_,⟨?_,?_,?_,?_,?_⟩⟩
 ·rw[jE,pD,cond_false];exact hr.tm j
 ·intro k s c e;rw[dR]at e;exact hr.sat.site _ _ _ e
 ·intro k t c e;rw[mL]at e;exact hr.sat.j5 _ _ _ e
 ·intro k t c e;rw[mL]at e;exact hr.sat.old _ _ _ e
 ·intro k t k' t' c c' e e' hk
  rw[mL]at e e';exact hr.sat.inj _ _ _ _ _ _ e e' hk
 ·intro k t c e hw;rw[mL]at e;exact hr.sat.low _ _ _ e hw
def yc (k:Nat) (c:A5):Mem->Mem
 | []=>[]
 | (j,s,c')::r=>bif Nat.beq k j then (j,s,c)::r else (j,s,c')::yc k c r
theorem mJ {k j s:Nat} {c c':A5} : ∀ {M:Mem},g9 (yc k c M) j=some (s,c') -> ∃ c0,g9 M j=some (s,c0)/\(c0=c'\/(j=k/\c'=c))
 | [],e=>by cases e
 | (i,s0,c0)::r,e=>by
  simp only[yc]at e;cases hk:Nat.beq k i<;>simp only[hk,cond_true,cond_false,g9]at e ⊢
  ·cases hj:Nat.beq j i<;>simp only[hj,cond_true,cond_false]at e ⊢
   ·exact mJ e
   ·exact ⟨c',e,Or.inl rfl⟩
  ·cases hj:Nat.beq j i<;>simp only[hj,cond_true,cond_false]at e ⊢
   ·exact ⟨c',e,Or.inl rfl⟩
   ·simp only[Option.some.injEq,Prod.mk.injEq]at e
    obtain ⟨rfl,rfl⟩:=e;exact ⟨c0,rfl,Or.inr ⟨(BL.1 hj).trans (BL.1 hk).symm,rfl⟩⟩
theorem jK {kk:List It} {Q:Tm->Mem->Prop} (k s:Nat) (e:g9 M k=some (s,.rw 1 [])) (h:AA L kk tm (yc k (.mx []) M) Q):AA L kk tm M Q:=by
 intro σ st hr;have hg : ∀ j t c,c7 (yc k (.mx []) M) j t=some c -> ∃ c0,c7 M j t=some c0/\c0.j5 σ j=c.j5 σ j:=by
  intro j t c g;obtain ⟨s1,c1,g1,g2,g3⟩:=HU g;obtain ⟨c0,q1,q2⟩:=mJ g1;cases t with
  | zero =>
   rw[g2 rfl];rcases q2 with rfl|⟨rfl,rfl⟩
   ·exact ⟨_,DZ q1,rfl⟩
   ·rw[e]at q1
    simp only[Option.some.injEq,Prod.mk.injEq]at q1;obtain ⟨rfl,rfl⟩:=q1;exact ⟨_,DZ e,rfl⟩
  | succ i =>
   obtain ⟨rows,z,es,(rfl|⟨a,v,rfl⟩)|⟨w,rfl⟩,Dw,rfl⟩:=g3 i rfl
   ·rcases q2 with rfl|⟨rfl,h0⟩
    ·exact ⟨.rw z es,by simp [c7,q1,Dw],rfl⟩
    ·obtain rfl:rows=[]:=by simpa using h0
     simp at Dw
   ·rcases q2 with rfl|⟨rfl,h0⟩
    ·exact ⟨.rw z es,by simp [c7,q1,Dw],rfl⟩
    ·cases h0
   ·rcases q2 with rfl|⟨rfl,h0⟩
    ·exact ⟨.rw z es,by simp [c7,q1,Dw],rfl⟩
    ·cases h0
 refine h σ st ⟨hr.tm,⟨?_,?_,?_,?_,?_⟩⟩
 ·intro j s' c g
  obtain ⟨c0,q1,_⟩:=mJ g;exact hr.sat.site _ _ _ q1
 ·intro j t c g
  obtain ⟨c0,q1,q2⟩:=hg j t c g;rw[<-q2];exact hr.sat.j5 _ _ _ q1
 ·intro j t c g
  obtain ⟨c0,q1,_⟩:=hg j t c g;exact hr.sat.old _ _ _ q1
 ·intro j t j' t' c c' g g' hj
  obtain ⟨_,q1,_⟩:=hg j t c g;obtain ⟨_,q2,_⟩:=hg j' t' c' g';exact hr.sat.inj _ _ _ _ _ _ q1 q2 hj
 ·intro j t c g hw
  cases t with
  | zero =>
   obtain ⟨s1,c1,g1,g2,g3⟩:=HU g;obtain ⟨c0,q1,q2⟩:=mJ g1;have g2:=g2 rfl;subst g2;rcases q2 with rfl|⟨rfl,rfl⟩
   ·exact hr.sat.low _ _ _ (DZ q1) hw
   ·exact hr.sat.low _ _ _ (DZ e) rfl
  | succ t =>
   obtain ⟨c0,q1,_⟩:=hg _ _ _ g;exact hr.sat.low _ _ _ q1 (mM q1)
theorem G7 {k:List It} {c:BH} {Q:Tm->Mem->Prop} (h:AA L (.code c :: .lp c::k) tm M Q):AA L (.lp c::k) tm M Q:=λ σ st hr=>wE.2 (h σ st hr)
theorem bY {α:Type} {k:List It} {c:BH} {Q:Tm->Mem->Prop} (m:α->Nat) (P:α->Prop) (vs:α->Tm) (Ms:α->Mem) (ts:List Nat) (τ:List (Nat × Nat)) (a:α)
  (he:W8 τ tm M (vs a++bg ts tm) (Ms a++M)) (hp:P a)
  (step : ∀ a,P a->(∀ a',m a'<m a->P a'->AA L (.lp c::k) (vs a'++bg ts tm) (Ms a'++M) Q)->AA L (.code c :: .lp c::k) (vs a++bg ts tm) (Ms a++M) Q):AA L (.lp c::k) tm M Q:=by
 have key : ∀ n a,m a<n->P a->AA L (.lp c::k) (vs a++bg ts tm) (Ms a++M) Q:=by
  intro n;induction n with
  | zero=>intro a h;omega
  | succ n ih =>
   intro a ha hp;exact G7 (step a hp λ a' h1 h2=>ih a' (by omega) h2)
 exact B1 τ he (key (m a+1) a (by omega) hp)
end
end Go.e8
namespace Go.e8
section
variable {α:Type} {enc:α->List AV} {l:List α} {L:Lib}
theorem AG {p q A B:Prop} (h1:p->A) (h2:q->B):AF p q A B:=⟨h1,h2⟩
theorem AZ {p A:Prop} (h1:p) (h2:A):AP p A:=⟨h1,h2⟩
section
variable {K:AV->Prop} {a b:Int} {k k':IntKind} {op:BinOp}
theorem jT {v:AV} (h:DI op k a k' b=some v) (hk:K v):AD op k a k' b K:=⟨v,h,hk⟩
theorem AY (hr : -9223372036854775808<=a+b/\a+b<=9223372036854775807) (hk:K (.int .i64 (a+b))):AD .add .i64 a .i64 b K:=⟨_,by simp only[DI,if_true];rw[IntWalk.i64_in _ hr],hk⟩
theorem B3 (hr : -9223372036854775808<=a-b/\a-b<=9223372036854775807) (hk:K (.int .i64 (a-b))):AD .sub .i64 a .i64 b K:=⟨_,by simp only[DI,if_true];rw[IntWalk.i64_in _ hr],hk⟩
theorem FN (hr : -9223372036854775808<=a*b/\a*b<=9223372036854775807) (hk:K (.int .i64 (a*b))):AD .mul .i64 a .i64 b K:=⟨_,by simp only[DI,if_true];rw[IntWalk.i64_in _ hr],hk⟩
theorem cI (h:0<=b/\b<=62) (hk:1<=pw b->pw b<=4611686018427387904->K (.int .i64 (pw b))):AD .shl .i64 1 k' b K:=⟨_,Am5 h,hk (iP b) (uB h.2)⟩
theorem cH (hb:0<b) (h1:(0<=a\/a%b=0)->0<=a%b->a%b<b->K (.int .i64 (a%b))) (h2:a<0->a%b≠0->0<=a%b->a%b<b->K (.int .i64 (a%b-b))):AD .rem .i64 a .i64 b K:=by
 have h5:0<=a%b:=Int.emod_nonneg _ (by omega);have h6:a%b<b:=Int.emod_lt_of_pos _ hb;have e:DI .rem .i64 a .i64 b=some (.int .i64 (a.tmod b)):=by simp only[DI];rw[if_pos ⟨trivial,by omega⟩]
 by_cases hc:0<=a\/a%b=0
 ·rw[Yk hb,if_pos hc]at e
  exact ⟨_,e,h1 hc h5 h6⟩
 ·rw[Yk hb,if_neg hc]at e
  exact ⟨_,e,h2 (by omega) (by omega) h5 h6⟩
theorem IO (hb:0<b) (ha : -9223372036854775808<=a/\a<=9223372036854775807) (h1:(0<=a\/a%b=0)->K (.int .i64 (a/b))) (h2:a<0->a%b≠0->K (.int .i64 (a/b+1))):AD .quo .i64 a .i64 b K:=by
 have hr:=Aip (m:=b) (by omega) ha;have e:DI .quo .i64 a .i64 b=some (.int .i64 (IntKind.i64.wrap (a.tdiv b))):=by simp only[DI];rw[if_pos ⟨trivial,by omega⟩]
 by_cases hc:0<=a\/a%b=0
 ·rw[Yi hb,if_pos hc,IntWalk.i64_in _ hr]at e
  exact ⟨_,e,h1 hc⟩
 ·have Az0:a/b<0:=Int.ediv_neg_of_neg_of_pos (by omega) hb
  rw[Yi hb,if_neg hc,IntWalk.i64_in _ (by omega)]at e;exact ⟨_,e,h2 (by omega) (by omega)⟩
theorem Ae7 (h:0<=b/\b<=63) (hk:K (.int .i64 (a/pw b))):AD .shr .i64 a k' b K:=⟨_,Am6 h,hk⟩
theorem wV (hk:K (.int k (k.wrap (a+b)))):AD .add k a k b K:=⟨_,by simp only[DI,if_true],hk⟩
theorem wW (hk:K (.int k (k.wrap (a-b)))):AD .sub k a k b K:=⟨_,by simp only[DI,if_true],hk⟩
theorem CB.neg (hr : -9223372036854775808 <= -a /\ -a<=9223372036854775807) (hk:K (.int .i64 (-a))):CB .neg .i64 a K:=⟨_,by simp only[Z7];rw[show (0:Int)-a = -a by omega,IntWalk.i64_in _ hr],hk⟩
theorem CB.go {op:UnOp} {v:AV} (h:Z7 op (.int k a)=some v) (hk:K v):CB op k a K:=⟨v,h,hk⟩
end
theorem eU {k:IntKind} {n:Int} {K:Int->Prop} (e:k.wrap n=n) (h:K n):AU k n K:=by unfold AU;rw[e];exact h
theorem CP {n:Int} {K:Int->Prop} (hr:0<=n/\n<=18446744073709551615) (h:K n):AU .u64 n K:=eU (IntWalk.u64_in _ hr) h
theorem aA {n:Int} {K:Int->Prop} (hr : -9223372036854775808<=n/\n<=9223372036854775807) (h:K n):AU .i64 n K:=eU (IntWalk.i64_in _ hr) h
theorem A9 {a:Int} {z:Nat} {K:List AV->Prop} {e:α} (he:l[a.toNat]? = some e) (h0:0<=a) (hz:(enc e).length=z) (h:K (enc e)):AW (l.map enc) a z K:=⟨h0,enc e,by simp [he],hz,h⟩
theorem oQ {a:Int} {z:Nat} {K:List AV->Prop} (h0:0<=a/\a<l.length) (hz : ∀ e,(enc e).length=z) (h : ∀ e,l[a.toNat]? = some e->K (enc e)):AW (l.map enc) a z K:=by
 have he:l[a.toNat]? = some (l[a.toNat]'(by omega)):=zE _;exact A9 he h0.1 (hz _) (h _ he)
theorem Afb {n z:Nat} {K:List AV->Prop} (hn:n<l.length) (hz : ∀ e,(enc e).length=z) (h : ∀ e,l[n]? = some e->K (enc e)):AW (l.map enc) (n:Int) z K :=
 oQ ⟨by omega,by omega⟩ hz h
theorem GI {i j n:Nat} {K:List AV->Prop} {f:α->List AV} (hi:i<l.length) (hp : ∀ e,part (enc e) j n=some (f e)) (h : ∀ e,l[i]? = some e->K (f e)):BA (l.map enc) (0+((i:Int)).toNat) j n K:=by
 have he:l[i]? = some l[i]:=zE _;rw[Nat.zero_add,Int.toNat_natCast];exact ⟨enc l[i],f l[i],by simp [he],hp _,h _ he⟩
theorem Ae0 {i:Int} {j n:Nat} {K:List AV->Prop} {f:α->List AV} (hi:0<=i/\i<l.length) (hp : ∀ e,part (enc e) j n=some (f e)) (h : ∀ e,l[i.toNat]? = some e->K (f e)):BA (l.map enc) (0+i.toNat) j n K:=by
 have hl:i.toNat<l.length:=by omega
 have he:l[i.toNat]? = some l[i.toNat]:=zE _;rw[Nat.zero_add];exact ⟨enc l[i.toNat],f l[i.toNat],by rw[List.getElem?_map,he];rfl,hp _,h _ he⟩
theorem FX {i:Nat} {vs:List AV} {K:List (List AV)->Prop} (e:α) (he:vs=enc e) (hz : ∀ x,(enc x).length=vs.length) (hi:i<l.length) (h:K ((l.set i e).map enc)):A6 (l.map enc) (0+((i:Int)).toNat) 0 vs K:=by
 rw[Nat.zero_add,Int.toNat_natCast];refine ⟨enc l[i],by simp [zE hi],by rw[hz];omega,?_⟩;rw[show splice (enc l[i]) 0 vs=vs by simp [splice,<-hz l[i]],he,<-List.map_set];exact h
theorem cG {i j n:Nat} {K:List AV->Prop} {e:α} {ds:List AV} (he:l[i]? = some e) (hp:part (enc e) j n=some ds) (h:K ds):BA (l.map enc) i j n K:=⟨enc e,ds,by simp [he],hp,h⟩
theorem Anm {cs vs:List AV} (h:cs.length=vs.length):splice cs 0 vs=vs:=by
 simp [splice,<-h]
theorem Afh {i:Nat} {vs:List AV} {K:List (List AV)->Prop} (e:α) (he:vs=enc e) (hz : ∀ x,(enc x).length=vs.length) (hi:i<l.length) (h:K ((l.set i e).map enc)):A6 (l.map enc) i 0 vs K:=by
 refine ⟨enc l[i],by simp [zE hi],by rw[hz];omega,?_⟩;rw[Anm (hz _),he,<-List.map_set];exact h
theorem EV {a b:Int} {bytes:Nat} {zero:List AV} {K:List (List AV)->Nat->Prop} (x:α) (n:Nat) (hx:zero=enc x) (hn:a=n) (hr:a<=b/\b*bytes<=140737488355328/\b<=9223372036854775807) (h:K ((List.replicate n x).map enc) n):B2 a b bytes zero K:=by
 subst hn hx;refine ⟨⟨by omega,hr.1,by simpa [EB] using hr.2.1,hr.2.2⟩,?_⟩;simpa using h
theorem AR {K:Nat->Prop} (h:K l.length):AM (l.map enc) K:=by unfold AM;simpa using h
theorem ES {len z bytes:Nat} {vs:List AV} {K:List (List AV)->Nat->Prop} (e:α) (he:vs=enc e) (hl:len=l.length) (hz:vs.length=z) (hr:(l.length+1)*bytes<=140737488355328) (dd:l.length+1<=9223372036854775807) (h:K ((l++[e]).map enc) (l++[e]).length):BO (l.map enc) len [vs] z bytes K:=by
 subst hl;refine ⟨by simp,by simpa using hz,by simpa [EB] using hr,by simpa using dd,?_⟩;rw[List.take_of_length_le (by simp)];simpa [he] using h
theorem jM {len z bytes:Nat} {l':List α} {K:List (List AV)->Nat->Prop} (hl:len=l.length) (hz : ∀ x,(enc x).length=z) (hr:(l.length+l'.length)*bytes<=140737488355328) (dd:l.length+l'.length<=9223372036854775807) (h:K ((l++l').map enc) (l++l').length):BO (l.map enc) len (l'.map enc) z bytes K:=by
 subst hl;refine ⟨by simp,by simp [hz],by simpa [EB] using hr,by simpa using dd,?_⟩;rw[List.take_of_length_le (by simp)];simpa using h
theorem eT {z bytes:Nat} {vs:List AV} {K:List (List AV)->Nat->Prop} (e:α) (he:vs=enc e) (hz:vs.length=z) (hb:bytes<=140737488355328) (h:K ([e].map enc) 1):B8 [vs] z bytes K :=
 ⟨by simpa using hz,by simpa [EB] using hb,by simp,by simpa [he] using h⟩
theorem Y9 {z bytes:Nat} {K:List (List AV)->Nat->Prop} (hz : ∀ x,(enc x).length=z) (hr:l.length*bytes<=140737488355328) (dd:l.length<=9223372036854775807) (h:K (l.map enc) l.length):B8 (l.map enc) z bytes K :=
 ⟨by simp [hz],by simpa [EB] using hr,by simpa using dd,by simpa using h⟩
theorem kB {off len:Nat} {K:List (List AV)->Prop} (hl:off+len<=l.length) (h:K (((l.drop off).take len).map enc)):BN (l.map enc) off len K :=
 ⟨by simpa using hl,by rw[<-List.map_drop,<-List.map_take];exact h⟩
theorem tR : ∀ {e:List AV},F5 e=true->UN e=true/\e.map nl=e
 | [],_=>⟨rfl,rfl⟩
 | v::r,h=>by
  have hv:F5 r=true:=by cases v<;>simp only[F5]at h<;>first|cases h|exact h
  obtain ⟨h1,h2⟩:=tR hv;cases v<;>simp only[F5]at h<;>first|cases h|exact ⟨h1,by rw[List.map_cons,h2];rfl⟩
theorem Wz : ∀ {es:List (List AV)},(∀ e∈es,F5 e=true)->es.map (λ e=>e.map nl)=es
 | [],_=>rfl
 | e::r,h=>by rw[List.map_cons,(tR (h e List.mem_cons_self)).2,Wz λ x hx=>h x (List.mem_cons_of_mem _ hx)]
theorem kC {es:List (List AV)} {off len:Nat} {K:List (List AV)->Prop} (hl:off+len<=es.length) (hz : ∀ e∈es,F5 e=true) (h:K ((es.drop off).take len)):A3 es off len K :=
 ⟨hl,λ e he=>(tR (hz e he)).1,by rw[Wz λ e he=>hz e (List.mem_of_mem_drop (List.mem_of_mem_take he))];exact h⟩
theorem DH {off len:Nat} {K:List (List AV)->Prop} (hz : ∀ x,F5 (enc x)=true) (ho:off=0) (hl:len=l.length) (h:K (l.map enc)):A3 (l.map enc) off len K:=by
 subst hl ho;refine kC (by simp) (λ e he => ?_) (by rw[List.drop_zero,List.take_of_length_le (by simp)];exact h);obtain ⟨x,_,rfl⟩:=List.mem_map.1 he;exact hz x
theorem H7 {off len:Nat} {K:List (List AV)->Prop} (hz : ∀ x,F5 (enc x)=true) (hl:off+len<=l.length) (h:K (((l.drop off).take len).map enc)):A3 (l.map enc) off len K:=by
 refine kC (by simpa using hl) (λ e he => ?_) (by rw[<-List.map_drop,<-List.map_take];exact h);obtain ⟨x,_,rfl⟩:=List.mem_map.1 he;exact hz x
theorem EE {e:List AV} {K:List (List AV)->Prop} (h:K [e]):BN [e] 0 1 K:=⟨by simp,h⟩
theorem Afg {K:List (List AV)->Prop} (h:K []):A3 [] 0 0 K:=⟨by simp,by simp,h⟩
theorem JZ {e:List AV} {K:List (List AV)->Prop} (h0:F5 e=true) (h:K [e]):A3 [e] 0 1 K:=kC (by simp) (by simpa using h0) h
theorem aG {e e':List AV} {K:List (List AV)->Prop} (h0:F5 e=true) (h1:F5 e'=true) (h:K [e,e']):A3 [e,e'] 0 2 K:=kC (by simp) (by simpa using ⟨h0,h1⟩) h
section
variable {β:Type} {z:Nat} {ll:List (List β)} {en:β->List AV}
abbrev BJ (z:Nat) (en:β->List AV) (ll:List (List β)):List (Option (Nat × List (List AV))):=ll.map λ r=>some (z,r.map en)
theorem FW {i:Nat} {K:Option (Nat × List (List AV))->Prop} (hi:i<ll.length) (h : ∀ r,ll[i]? = some r->K (some (z,r.map en))):BK (BJ z en ll) (0+((i:Int)).toNat) K:=by
 have he:ll[i]? = some ll[i]:=zE _;exact ⟨_,by rw[Nat.zero_add,Int.toNat_natCast,List.getElem?_map,he];rfl,h _ he⟩
theorem AeW {i:Nat} {K:Nat->List (List AV)->Prop} {r:List β} (hr:ll[i]? = some r) (h:K z (r.map en)):BI (BJ z en ll) i K :=
 ⟨z,r.map en,by rw[List.getElem?_map,hr];rfl,h⟩
theorem GH {i:Nat} {K:Nat->List (List AV)->Prop} {r:List β} (hr:ll[i]? = some r) (h:K z (r.map en)):BI (BJ z en ll) (0+((i:Int)).toNat) K:=by
 rw[Nat.zero_add,Int.toNat_natCast];exact AeW hr h
theorem oP {i:Nat} {r r':List β} {K:List (Option (Nat × List (List AV)))->Prop} (hl:r'.length=r.length) (h:K (BJ z en (ll.set i r'))):CK (BJ z en ll) (0+((i:Int)).toNat) z (r.map en) (r'.map en) K:=by
 rw[Nat.zero_add,Int.toNat_natCast];exact ⟨by simpa using hl,by simpa [BJ,List.map_set] using h⟩
theorem bZ {len bytes:Nat} {r:List β} {K:List (Option (Nat × List (List AV)))->Nat->Prop} (hl:len=ll.length) (hr:(ll.length+1)*bytes<=140737488355328) (dd:ll.length+1<=9223372036854775807) (h:K (BJ z en (ll++[r])) (ll++[r]).length):CR (BJ z en ll) len (some (z,r.map en)) bytes K:=by
 subst hl;exact ⟨by simp,by simpa [EB] using hr,dd,by simpa [BJ] using h⟩
theorem Wo (q:Bool) : ∀ ll:List (List β),Z1 q (BJ z en ll)=ll.map λ r=>[AV.sl q (r.map en)]
 | []=>rfl
 | r::l=>by simp only[BJ,List.map_cons,Z1];rw[show Z1 q (l.map λ r=>some (z,r.map en))=_ from Wo q l]
theorem KR {q:Bool} {off len:Nat} {K:List (List AV)->Prop} (hz : ∀ x,F5 (en x)=true) (ho:off=0) (hl:len=ll.length) (h:K (ll.map λ r=>[AV.sl q (r.map en)])):CI q (BJ z en ll) off len K:=by
 refine ⟨ho,by simpa using hl,λ z' es hm e he => ?_,by rw[Wo];exact h⟩;obtain ⟨r,_,hr⟩:=List.mem_map.1 hm;simp only[Option.some.injEq,Prod.mk.injEq]at hr;obtain ⟨rfl,rfl⟩:=hr;obtain ⟨x,_,rfl⟩:=List.mem_map.1 he;exact hz x
end
theorem AeQ {len:Nat} {a:Int} {K:Nat->Nat->Prop} (h0:0<=a/\a<=len) (h:K a.toNat len):BX (some a) none len K:=⟨a.toNat,len,⟨h0.1,rfl⟩,rfl,by omega,h⟩
theorem wG {len:Nat} {b:Int} {K:Nat->Nat->Prop} (h0:0<=b/\b<=len) (h:K 0 b.toNat):BX none (some b) len K:=⟨0,b.toNat,rfl,⟨h0.1,h0.2,rfl⟩,by omega,h⟩
theorem AeR {len:Nat} {a b:Int} {K:Nat->Nat->Prop} (h0:0<=a/\a<=b/\b<=len) (h:K a.toNat b.toNat):BX (some a) (some b) len K:=⟨a.toNat,b.toNat,⟨h0.1,rfl⟩,⟨by omega,by omega,rfl⟩,by omega,h⟩
theorem xA {z:Nat} {lo hi:Option Int} {K:List (List AV)->Prop} (hz : ∀ x,(enc x).length=z) (h:BX lo hi l.length λ a h=>K (((l.take h).drop a).map enc)):B9 z (l.map enc) lo hi K:=by
 refine ⟨by simp [hz],?_⟩;rw[List.length_map];obtain ⟨a,b,h1,h2,h3,h4⟩:=h;refine ⟨a,b,h1,h2,h3,?_⟩;show K _;rw[<-List.map_take,<-List.map_drop];exact h4
theorem ZE {z k:Nat} {K:List (List AV)->Prop} (hz : ∀ x,(enc x).length=z) (hk:k<=l.length) (h:K ((l.take k).map enc)):B9 z (l.map enc) none (some (k:Int)) K :=
 xA hz (wG (by omega) (by simpa using h))
theorem Aff {z k:Nat} {K:List (List AV)->Prop} (hz : ∀ x,(enc x).length=z) (hk:k<=l.length) (h:K ((l.drop k).map enc)):B9 z (l.map enc) (some (k:Int)) none K :=
 xA hz (AeQ (by omega) (by simpa using h))
theorem AC {f:Nat} {vs:List AV} {K:AV->Prop} {r:AV} (h:Ev L f vs r) (hk:K r):AB L f vs K:=⟨r,h,hk⟩
theorem cA {f:Nat} {vs:List AV} {K:AV->Prop} {p:Prop} [Decidable p] (h:Ev L f vs (.bool (decide p))) (h1:p->K (.bool true)) (h2 : ¬ p->K (.bool false)):AB L f vs K:=by
 refine ⟨_,h,?_⟩;by_cases e:p
 ·rw[decide_eq_true e];exact h1 e
 ·rw[decide_eq_false e];exact h2 e
theorem AX {a r:AV} (h:a=r) (hc:A0 r):AJ a r:=⟨h,hc⟩
theorem GG {a r:Bool} (h:a=r):AJ (.bool a) (.bool r):=⟨by rw[h],by simp [A0]⟩
theorem jQ {p:Prop} [Decidable p] (h:p):AJ (.bool true) (.bool (decide p)):=⟨by simp [h],by simp [A0]⟩
theorem fA {p:Prop} [Decidable p] (h : ¬ p):AJ (.bool false) (.bool (decide p)):=⟨by simp [h],by simp [A0]⟩
theorem CX {k:IntKind} {a b:Int} (h:a=b):AJ (.int k a) (.int k b):=⟨by rw[h],by simp [A0]⟩
theorem aM (h : ∀ x,CE (enc x)) : ∀ l:List α,FH (l.map enc)
 | []=>by simp [FH]
 | x::r=>by rw[List.map_cons,FH];exact ⟨h x,aM h r⟩
end
theorem Agn (l:List Int):FH (l.map O4):=aM (λ_=>by simp [CE,A0]) l
theorem BQ {α:Type} {L:Lib} {k:List It} {cd:BH} {tm:Tm} {M:Mem} {Q:Tm->Mem->Prop} (m:α->Nat) (P:α->Prop) (vs:α->Tm) (Ms:α->Mem) (ts:List Nat) (τ:List (Nat × Nat)) (a:α)
  (he:W8 τ tm M (vs a++bg ts tm) (Ms a++M)) (hp:P a)
  (step : ∀ a,P a->(∀ a',m a'<m a->P a'->AA L (.lp cd::k) (vs a'++bg ts tm) (Ms a'++M) Q)->AA L (.code cd :: .lp cd::k) (vs a++bg ts tm) (Ms a++M) Q):AA L (.lp cd::k) tm M Q :=
 bY (α:=α) (λ x=>m x) (λ x=>P x) (λ x=>vs x) (λ x=>Ms x) ts τ a he hp λ a h ih=>step a h λ a' h1 h2=>ih a' h1 h2
theorem F8 {α β:Type} {L:Lib} {k:List It} {cd:BH} {tm:Tm} {M:Mem} {Q:Tm->Mem->Prop} (m:α->β->Nat) (P:α->β->Prop) (vs:α->β->Tm) (Ms:α->β->Mem) (ts:List Nat) (τ:List (Nat × Nat)) (a:α) (b:β)
  (he:W8 τ tm M (vs a b++bg ts tm) (Ms a b++M)) (hp:P a b)
  (step : ∀ a b,P a b->(∀ a' b',m a' b'<m a b->P a' b'->AA L (.lp cd::k) (vs a' b'++bg ts tm) (Ms a' b'++M) Q)->AA L (.code cd :: .lp cd::k) (vs a b++bg ts tm) (Ms a b++M) Q):AA L (.lp cd::k) tm M Q :=
 bY (α:=α × β) (λ x=>m x.1 x.2) (λ x=>P x.1 x.2) (λ x=>vs x.1 x.2) (λ x=>Ms x.1 x.2) ts τ (a,b) he hp λ⟨a,b⟩ h ih=>step a b h λ a' b' h1 h2=>ih (a',b') h1 h2
theorem GQ {α β γ:Type} {L:Lib} {k:List It} {cd:BH} {tm:Tm} {M:Mem} {Q:Tm->Mem->Prop} (m:α->β->γ->Nat) (P:α->β->γ->Prop) (vs:α->β->γ->Tm) (Ms:α->β->γ->Mem) (ts:List Nat) (τ:List (Nat × Nat)) (a:α) (b:β) (c:γ)
  (he:W8 τ tm M (vs a b c++bg ts tm) (Ms a b c++M)) (hp:P a b c)
  (step : ∀ a b c,P a b c->(∀ a' b' c',m a' b' c'<m a b c->P a' b' c'->AA L (.lp cd::k) (vs a' b' c'++bg ts tm) (Ms a' b' c'++M) Q)->AA L (.code cd :: .lp cd::k) (vs a b c++bg ts tm) (Ms a b c++M) Q):AA L (.lp cd::k) tm M Q :=
 bY (α:=α × β × γ) (λ x=>m x.1 x.2.1 x.2.2) (λ x=>P x.1 x.2.1 x.2.2) (λ x=>vs x.1 x.2.1 x.2.2) (λ x=>Ms x.1 x.2.1 x.2.2) ts τ (a,b,c) he hp λ⟨a,b,c⟩ h ih=>step a b c h λ a' b' c' h1 h2=>ih (a',b',c') h1 h2
theorem oG {α β γ δ:Type} {L:Lib} {k:List It} {cd:BH} {tm:Tm} {M:Mem} {Q:Tm->Mem->Prop} (m:α->β->γ->δ->Nat) (P:α->β->γ->δ->Prop) (vs:α->β->γ->δ->Tm) (Ms:α->β->γ->δ->Mem) (ts:List Nat) (τ:List (Nat × Nat)) (a:α) (b:β) (c:γ) (d:δ)
  (he:W8 τ tm M (vs a b c d++bg ts tm) (Ms a b c d++M)) (hp:P a b c d)
  (step : ∀ a b c d,P a b c d->(∀ a' b' c' d',m a' b' c' d'<m a b c d->P a' b' c' d'->AA L (.lp cd::k) (vs a' b' c' d'++bg ts tm) (Ms a' b' c' d'++M) Q)->AA L (.code cd :: .lp cd::k) (vs a b c d++bg ts tm) (Ms a b c d++M) Q):AA L (.lp cd::k) tm M Q :=
 bY (α:=α × β × γ × δ) (λ x=>m x.1 x.2.1 x.2.2.1 x.2.2.2) (λ x=>P x.1 x.2.1 x.2.2.1 x.2.2.2) (λ x=>vs x.1 x.2.1 x.2.2.1 x.2.2.2) (λ x=>Ms x.1 x.2.1 x.2.2.1 x.2.2.2) ts τ (a,b,c,d) he hp λ⟨a,b,c,d⟩ h ih=>step a b c d h λ a' b' c' d' h1 h2=>ih (a',b',c',d') h1 h2
theorem Aei {α β γ δ ε:Type} {L:Lib} {k:List It} {cd:BH} {tm:Tm} {M:Mem} {Q:Tm->Mem->Prop} (m:α->β->γ->δ->ε->Nat) (P:α->β->γ->δ->ε->Prop) (vs:α->β->γ->δ->ε->Tm) (Ms:α->β->γ->δ->ε->Mem) (ts:List Nat) (τ:List (Nat × Nat)) (a:α) (b:β) (c:γ) (d:δ) (e:ε)
  (he:W8 τ tm M (vs a b c d e++bg ts tm) (Ms a b c d e++M)) (hp:P a b c d e)
  (step : ∀ a b c d e,P a b c d e->(∀ a' b' c' d' e',m a' b' c' d' e'<m a b c d e->P a' b' c' d' e'->AA L (.lp cd::k) (vs a' b' c' d' e'++bg ts tm) (Ms a' b' c' d' e'++M) Q)->AA L (.code cd :: .lp cd::k) (vs a b c d e++bg ts tm) (Ms a b c d e++M) Q):AA L (.lp cd::k) tm M Q :=
 bY (α:=α × β × γ × δ × ε) (λ x=>m x.1 x.2.1 x.2.2.1 x.2.2.2.1 x.2.2.2.2) (λ x=>P x.1 x.2.1 x.2.2.1 x.2.2.2.1 x.2.2.2.2) (λ x=>vs x.1 x.2.1 x.2.2.1 x.2.2.2.1 x.2.2.2.2) (λ x=>Ms x.1 x.2.1 x.2.2.1 x.2.2.2.1 x.2.2.2.2) ts τ (a,b,c,d,e) he hp λ⟨a,b,c,d,e⟩ h ih=>step a b c d e h λ a' b' c' d' e' h1 h2=>ih (a',b',c',d',e') h1 h2
theorem Aej {α β γ δ ε ζ:Type} {L:Lib} {k:List It} {cd:BH} {tm:Tm} {M:Mem} {Q:Tm->Mem->Prop} (m:α->β->γ->δ->ε->ζ->Nat) (P:α->β->γ->δ->ε->ζ->Prop) (vs:α->β->γ->δ->ε->ζ->Tm) (Ms:α->β->γ->δ->ε->ζ->Mem) (ts:List Nat) (τ:List (Nat × Nat)) (a:α) (b:β) (c:γ) (d:δ) (e:ε) (f:ζ)
  (he:W8 τ tm M (vs a b c d e f++bg ts tm) (Ms a b c d e f++M)) (hp:P a b c d e f)
  (step : ∀ a b c d e f,P a b c d e f->(∀ a' b' c' d' e' f',m a' b' c' d' e' f'<m a b c d e f->P a' b' c' d' e' f'->AA L (.lp cd::k) (vs a' b' c' d' e' f'++bg ts tm) (Ms a' b' c' d' e' f'++M) Q)->AA L (.code cd :: .lp cd::k) (vs a b c d e f++bg ts tm) (Ms a b c d e f++M) Q):AA L (.lp cd::k) tm M Q :=
 bY (α:=α × β × γ × δ × ε × ζ) (λ x=>m x.1 x.2.1 x.2.2.1 x.2.2.2.1 x.2.2.2.2.1 x.2.2.2.2.2) (λ x=>P x.1 x.2.1 x.2.2.1 x.2.2.2.1 x.2.2.2.2.1 x.2.2.2.2.2) (λ x=>vs x.1 x.2.1 x.2.2.1 x.2.2.2.1 x.2.2.2.2.1 x.2.2.2.2.2) (λ x=>Ms x.1 x.2.1 x.2.2.1 x.2.2.2.1 x.2.2.2.2.1 x.2.2.2.2.2) ts τ (a,b,c,d,e,f) he hp λ⟨a,b,c,d,e,f⟩ h ih=>step a b c d e f h λ a' b' c' d' e' f' h1 h2=>ih (a',b',c',d',e',f') h1 h2
theorem AE {L:Lib} {Q:Tm->Mem->Prop} {c:BH} {k:List It} {tm:Tm} {M:Mem} (h:fT (ye 0 tm) λ tm=>fM (po M) λ M=>XK L Q 500 (.code c::k) tm M):AA L (.code c::k) tm M Q:=by
 rw[dG,O5]at h;exact wC (oS h)
end Go.e8

namespace Go.e8
variable {L:Lib}
def CM (N:Nat):AQ->Bool
 | .t n=>Nat.blt n N
 | .c _=>true
def iH (N:Nat):D4->Bool
 | .b9 x=>CM N x
 | .ag _ _=>true
 | .pick c a b=>CM N c&&(CM N a&&CM N b)
 | .bin _ x y=>CM N x&&CM N y
 | .beq _ x y=>CM N x&&CM N y
 | .un _ x=>CM N x
 | .conv _ x=>CM N x
 | .box _ x=>CM N x
 | .alloc _ _=>true
 | .build _ ps=>ps.all λ p=>CM N p.2.2
 | .g8 _ _ ps=>ps.all (CM N)
 | .a7 x _=>CM N x
 | .qa x _ _ _=>CM N x
 | .a5 _ _ x i=>CM N x&&CM N i
 | .idx _ _ _ x i=>CM N x&&CM N i
 | .ld _ _ x=>CM N x
 | .vu _ _ x=>CM N x
 | .st _ x v=>CM N x&&CM N v
 | .mk _ _ _ _ l c=>CM N l&&CM N c
 | .jq _ x lo hi=>CM N x&&((lo.all (CM N))&&(hi.all (CM N)))
 | .ext x _=>CM N x
 | .len x=>CM N x
 | .mm _ xs=>xs.all (CM N)
 | .app _ _ _ x y=>CM N x&&CM N y
 | .call _ xs=>xs.all (CM N)
 | .j7 _ xs=>xs.all (CM N)
 | .vb _ x=>CM N x
 | .jg _ x=>CM N x
 | .bad=>true
 | .gf x=>CM N x
 | .pz _ _ _ x y=>CM N x&&CM N y
 | .si _ _ xs=>xs.all (CM N)
 | .tu _ x=>CM N x
 | .o7 x xs=>CM N x&&xs.all (CM N)
 | .n6 _ xs=>xs.all (CM N)
 | .x9 _ _ xs=>xs.all (CM N)
 | .dv _ _ xs=>xs.all (CM N)
 | .tv _ _ x y=>CM N x&&CM N y
 | .px _ _ x v=>CM N x&&CM N v
def fK (N:Nat) (a:AI):Bool:=(a.dst.all λ d=>Nat.blt d N)&&((a.guard.all λ g=>Nat.blt g.1 N)&&iH N a.op)
def IR (N:Nat):BH->Bool
 | .skip=>true
 | .ops l _=>l.all (fK N)
 | .dr c ts _=>IR N c&&ts.all λ t=>Nat.blt t N
 | .scope c=>IR N c
 | .seq a b=>IR N a&&IR N b
 | .cond c a b=>CM N c&&(IR N a&&IR N b)
 | .block _ c=>IR N c
 | .loop c=>IR N c
 | .exit _=>true
 | .ret=>true
def ZR (N:Nat):It->Bool
 | .code c=>IR N c
 | .mr ts _=>ts.all λ t=>Nat.blt t N
 | .j5 _=>true
 | .lp c=>IR N c
structure Gh (N:Nat) (G T T':Tm):Prop where
 lo : ∀ j,j<N->j8 T' j=j8 T j
 hi : ∀ j,N<=j->j8 T' j=j8 G j
variable {N:Nat} {G:Tm}
theorem aJ {a b:Nat}:Nat.blt a b=true↔a<b:=by simp [Nat.blt];omega
theorem Gh.ev {st:St} {T':Tm} {o:AH} (h:Gh N G st.tm T') {x:AQ} (hx:CM N x=true):St.ev ⟨T',o⟩ x=st.ev x:=by
 cases x with
 | t n=>exact h.lo n (aJ.1 hx)
 | c v=>rfl
theorem bE {f g:AQ->AV} {xs:List AQ} (h : ∀ x,CM N x=true->f x=g x) (hx:xs.all (CM N)=true):xs.map f=xs.map g:=by
 apply List.map_congr_left;intro x hm;exact h x (List.all_eq_true.1 hx x hm)
theorem Air {C:Cl} {g7:List Nat} {ρ ρ':AQ->AV} {own:AH} (h : ∀ x,CM N x=true->ρ' x=ρ x) : ∀ (op:D4),iH N op=true->j6 C g7 ρ' own op=j6 C g7 ρ own op:=by
 intro op m5;cases op;case build zero ps =>
  have:(ps.map λ p=>(p.1,p.2.1,ρ' p.2.2))=ps.map λ p=>(p.1,p.2.1,ρ p.2.2):=by
   apply List.map_congr_left;intro p hm;rw[h _ (List.all_eq_true.1 m5 p hm)]
  simp only[j6,this]
 case g8 s c6 ps =>
  have:ps.mapM (λ x=>cellsOf (ρ' x))=ps.mapM (λ x=>cellsOf (ρ x)):=by
   have vn:ps.all (CM N)=true:=m5;clear m5;induction ps with
   | nil=>rfl
   | cons p r ih =>
    simp only[List.all_cons,Bool.and_eq_true]at vn;simp only[List.mapM_cons,h _ vn.1,ih vn.2]
  simp only[j6,this]
 case mm m xs=>simp only[j6,bE h m5]
 case call f xs=>simp only[j6,bE h m5]
 case j7 f xs=>simp only[j6,bE h m5]
 case si p f xs =>
  have:xs.mapM (λ x=>GZ (ρ' x))=xs.mapM (λ x=>GZ (ρ x)):=by
   have vn:xs.all (CM N)=true:=m5;clear m5;induction xs with
   | nil=>rfl
   | cons p r ih =>
    simp only[List.all_cons,Bool.and_eq_true]at vn;simp only[List.mapM_cons,h _ vn.1,ih vn.2]
  simp only[j6,this]
 case n6 f xs=>simp only[j6,bE h m5]
 case x9 s f xs=>simp only[j6,bE h m5]
 case dv s f xs=>simp only[j6,bE h m5]
 case o7 x xs =>
  simp only[iH,Bool.and_eq_true]at m5;simp only[j6,bE h m5.2,h _ m5.1]
 case jq c6 x lo hi =>
  simp only[iH,Bool.and_eq_true]at m5;obtain ⟨h1,h2,h3⟩:=m5;cases lo<;>cases hi<;>simp only[Option.all_some,Option.all_none]at h2 h3<;>simp only[j6,h _ h1,h _,h2,h3]
 all_goals (simp only[iH,Bool.and_eq_true]at m5;simp only[j6,h _,m5])
theorem Gh.dst {T T':Tm} (h:Gh N G T T') {d:Nat} (hd:d<N) (v:AV):Gh N G (lg T d v) (lg T' d v):=by
 constructor
 ·intro j hj
  rw[jH,jH,h.lo j hj]
 ·intro j hj
  rw[jH,h.hi j hj,if_neg (by omega)]
theorem Gh.qz {T T':Tm} {o:AH} (h:Gh N G T T') {d:Option Nat} (hd:(d.all λ d=>Nat.blt d N)=true) (v:AV):((⟨T',o⟩:St).dst d v).own=((⟨T,o⟩:St).dst d v).own/\Gh N G ((⟨T,o⟩:St).dst d v).tm ((⟨T',o⟩:St).dst d v).tm:=by
 cases d with
 | none=>exact ⟨rfl,h⟩
 | some d=>exact ⟨rfl,h.dst (aJ.1 hd) v⟩
theorem Anp {C:Cl} {a:AI} (ha:fK N a=true) {T T':Tm} {o:AH} (h:Gh N G T T') {s':St} (hs:C6 C a ⟨T',o⟩=some s') : ∃ s,C6 C a ⟨T,o⟩=some s/\s'.own=s.own/\Gh N G s.tm s'.tm:=by
 simp only[fK,Bool.and_eq_true]at ha;obtain ⟨h1,h2,h3⟩:=ha;have hg:FL ⟨T',o⟩ a.guard=FL ⟨T,o⟩ a.guard:=by
  cases hgg:a.guard with
  | none=>rfl
  | some g =>
   rw[hgg]at h2;simp only[FL,h.lo _ (aJ.1 h2)]
 have he:=Air (C:=C) (g7:=a.g7) (own:=o) (ρ:=St.ev ⟨T,o⟩) (ρ':=St.ev ⟨T',o⟩) (λ x hx=>Gh.ev (st:=⟨T,o⟩) h hx) a.op h3;unfold C6 at hs ⊢;rw[hg,he]at hs;cases Es:FL ⟨T,o⟩ a.guard with
 | none=>rw[Es]at hs;cases hs
 | some b =>
  rw[Es]at hs;cases b with
  | false =>
   simp only[Option.some.injEq]at hs ⊢;subst hs;exact ⟨_,rfl,h.qz h1 _⟩
  | true =>
   simp only at hs ⊢;cases hee:j6 C a.g7 (St.ev ⟨T,o⟩) o a.op with
   | none=>rw[hee]at hs;cases hs
   | some e =>
    rw[hee]at hs;simp only[Option.map_some,Option.some.injEq]at hs ⊢;subst hs;refine ⟨_,rfl,?_⟩;cases e with
    | val v=>exact h.qz h1 v
    | new s b v=>exact ⟨rfl,(h.qz (o:=o) h1 _).2⟩
    | As s b v=>exact ⟨rfl,(h.qz (o:=o) h1 _).2⟩
    | fk v o'=>exact ⟨rfl,(h.qz (o:=o) h1 _).2⟩
    | u7 s x=>exact ⟨rfl,(h.qz (o:=o) h1 _).2⟩
    | zi s x v=>exact ⟨rfl,(h.qz (o:=o) h1 _).2⟩
theorem Yb {C:Cl} : ∀ {l:List AI},l.all (fK N)=true -> ∀ {T T':Tm} {o:AH},Gh N G T T' -> ∀ {s':St},DC C l ⟨T',o⟩=some s' -> ∃ s,DC C l ⟨T,o⟩=some s/\s'.own=s.own/\Gh N G s.tm s'.tm
 | [],_,T,T',o,h,s',hs=>by
  simp only[DC,Option.some.injEq]at hs;subst hs;exact ⟨_,rfl,rfl,h⟩
 | a::l,ha,T,T',o,h,s',hs=>by
  simp only[List.all_cons,Bool.and_eq_true]at ha;simp only[DC]at hs;cases h1:C6 C a ⟨T',o⟩ with
  | none=>rw[h1]at hs;cases hs
  | some s1 =>
   rw[h1]at hs;obtain ⟨s2,e1,e2,e3⟩:=Anp ha.1 h h1;obtain ⟨T1,o1⟩:=s1;obtain ⟨T2,o2⟩:=s2;simp only at e2 e3;subst e2;obtain ⟨s3,f1,f2,f3⟩:=Yb ha.2 e3 hs;exact ⟨s3,by simp only[DC,e1,f1],f2,f3⟩
theorem gO {id:Nat} : ∀ {k k':List It},k.all (ZR N)=true->DX id k=some k'->k'.all (ZR N)=true
 | [],_,_,h=>by simp [DX]at h
 | it::k,k',hk,h=>by
  simp only[List.all_cons,Bool.and_eq_true]at hk;cases it with
  | j5 i =>
   simp only[DX]at h;split at h
   ·cases h;exact hk.2
   ·exact gO hk.2 h
  | code c=>simp only[DX]at h;exact gO hk.2 h
  | mr a b=>simp only[DX]at h;exact gO hk.2 h
  | lp c=>simp only[DX]at h;exact gO hk.2 h
theorem JT {C:Cl} : ∀ (n:Nat) {k:List It},k.all (ZR N)=true -> ∀ {T T':Tm} {o:AH},Gh N G T T' -> ∀ {s':St},run C n k ⟨T',o⟩=some s' -> ∃ s,run C n k ⟨T,o⟩=some s/\s'.own=s.own/\Gh N G s.tm s'.tm
 | 0,k,_,T,T',o,_,s',hs=>by simp [run]at hs
 | n+1,[],_,T,T',o,h,s',hs=>by
  simp only[run,Option.some.injEq]at hs ⊢;subst hs;exact ⟨_,rfl,rfl,h⟩
 | n+1,.j5 _::k,hk,T,T',o,h,s',hs=>by
  simp only[List.all_cons,Bool.and_eq_true]at hk;simp only[run]at hs ⊢;exact JT n hk.2 h hs
 | n+1,.mr ts ss::k,hk,T,T',o,h,s',hs=>by
  simp only[List.all_cons,Bool.and_eq_true]at hk;simp only[run]at hs ⊢;refine JT n hk.2 ⟨λ j hj => ?_,λ j hj => ?_⟩ hs
  ·rw[eI,eI,h.lo j hj]
  ·rw[eI,h.hi j hj,if_neg]
   intro hc;have:=List.all_eq_true.1 hk.1 j (by simpa using hc)
   have:=aJ.1 this
   omega
 | n+1,.lp c::k,hk,T,T',o,h,s',hs=>by
  simp only[run]at hs ⊢;have jy:=hk;simp only[List.all_cons,Bool.and_eq_true]at hk;exact JT n (by simp only[List.all_cons,Bool.and_eq_true];exact ⟨hk.1,hk.1,hk.2⟩) h hs
 | n+1,.code c::k,hk,T,T',o,h,s',hs=>by
  simp only[List.all_cons,Bool.and_eq_true]at hk;obtain ⟨hc,hk⟩:=hk;cases c with
  | skip=>simp only[run]at hs ⊢;exact JT n hk h hs
  | ops l d =>
   simp only[run]at hs ⊢;cases h1:DC C l ⟨T',o⟩ with
   | none=>rw[h1]at hs;cases hs
   | some s1 =>
    rw[h1]at hs;obtain ⟨s2,e1,e2,e3⟩:=Yb (show l.all (fK N)=true from hc) h h1;obtain ⟨T1,o1⟩:=s1;obtain ⟨T2,o2⟩:=s2;simp only at e2 e3;subst e2;rw[e1];exact JT n hk e3 hs
  | dr c ts ss =>
   simp only[run]at hs ⊢;simp only[ZR,IR,Bool.and_eq_true]at hc;exact JT n (by simp only[List.all_cons,Bool.and_eq_true];exact ⟨hc.1,hc.2,hk⟩) h hs
  | scope c =>
   simp only[run]at hs ⊢;exact JT n (by simp only[List.all_cons,Bool.and_eq_true];exact ⟨hc,hk⟩) h hs
  | seq a b =>
   simp only[run]at hs ⊢;simp only[ZR,IR,Bool.and_eq_true]at hc;exact JT n (by simp only[List.all_cons,Bool.and_eq_true];exact ⟨hc.1,hc.2,hk⟩) h hs
  | cond x a b =>
   simp only[ZR,IR,Bool.and_eq_true]at hc;simp only[run,Gh.ev (st:=⟨T,o⟩) h hc.1]at hs ⊢;cases hx:St.ev ⟨T,o⟩ x<;>rw[hx]at hs<;>try (simp at hs;done)
   rename_i q;cases q
   ·exact JT n (by simp only[List.all_cons,Bool.and_eq_true];exact ⟨hc.2.2,hk⟩) h hs
   ·exact JT n (by simp only[List.all_cons,Bool.and_eq_true];exact ⟨hc.2.1,hk⟩) h hs
  | block id c =>
   simp only[run]at hs ⊢;exact JT n (by simp only[List.all_cons,Bool.and_eq_true];exact ⟨hc,rfl,hk⟩) h hs
  | loop c =>
   simp only[run]at hs ⊢;exact JT n (by simp only[List.all_cons,Bool.and_eq_true];exact ⟨hc,hc,hk⟩) h hs
  | exit id =>
   simp only[run]at hs ⊢;cases he:DX id k with
   | none=>rw[he]at hs;cases hs
   | some k' =>
    rw[he]at hs;exact JT n (gO hk he) h hs
  | ret =>
   simp only[run,Option.some.injEq]at hs ⊢;subst hs;exact ⟨_,rfl,rfl,h⟩
def GP (N:Nat):Tm->Tm
 | []=>[]
 | (i,v)::r=>(N+i,v)::GP N r
def gh (N:Nat):Tm->Tm
 | []=>[]
 | (i,v)::r=>bif Nat.ble N i then (Nat.sub i N,v)::gh N r else gh N r
theorem vV (N j:Nat) : ∀ T:Tm,j8 (GP N T) (N+j)=j8 T j
 | []=>rfl
 | (i,v)::r=>by
  have ih:=vV N j r;simp only[GP,j8,ih];by_cases h:j=i
  ·simp [h]
  ·rw[if_neg h,if_neg (by omega)]
theorem vW {N j:Nat} (hj:j<N) : ∀ T:Tm,j8 (GP N T) j = .any
 | []=>rfl
 | (i,v)::r=>by
  simp only[GP,j8,vW hj r];rw[if_neg (by omega)]
theorem vT (N j:Nat) : ∀ T:Tm,j8 (gh N T) j=j8 T (N+j)
 | []=>rfl
 | (i,v)::r=>by
  have ih:=vT N j r;simp only[gh];cases h:Nat.ble N i
  ·have h1 : ¬ N<=i:=λ e=>by rw[Nat.ble_eq_true_of_le e]at h;cases h
   simp only[cond,j8,ih];rw[if_neg (by omega)]
  ·have h1:=Nat.le_of_ble_eq_true h
   simp only[cond,j8,ih];by_cases h2:j=i-N
   ·rw[if_pos (show j=Nat.sub i N from h2),if_pos (by omega)]
   ·rw[if_neg (show ¬ j=Nat.sub i N from h2),if_neg (by omega)]
def TT (f:AV->AV):Tm->Tm
 | []=>[]
 | (i,v)::r=>(i,f v)::TT f r
theorem OM {f:AV->AV} (hf:f .any = .any) (j:Nat) : ∀ T:Tm,j8 (TT f T) j=f (j8 T j)
 | []=>hf.symm
 | (i,v)::r=>by
  simp only[TT,j8,OM hf j r];by_cases h:j=i<;>simp [h]
theorem sI (f:AV->AV) : ∀ (i:Nat) (vs:List AV),C0 i (vs.map f)=TT f (C0 i vs)
 | _,[]=>rfl
 | i,v::r=>by simp only[List.map_cons,C0,TT,sI f (i+1) r]
theorem jF (j:Nat) (b:Tm) : ∀ a:Tm,((a.any λ p=>p.1 == j)=true/\j8 (a++b) j=j8 a j)\/((a.any λ p=>p.1 == j)=false/\j8 (a++b) j=j8 b j)
 | []=>Or.inr ⟨rfl,rfl⟩
 | (i,v)::r=>by
  by_cases h:j=i
  ·subst h
   exact Or.inl (by simp [j8])
  ·have h' : ¬ i=j:=λ e=>h e.symm
   rcases jF j b r with ⟨h1,h2⟩|⟨h1,h2⟩
   ·exact Or.inl ⟨by rw[List.any_cons,h1,Bool.or_true],by simp only[List.cons_append,j8,if_neg h,h2]⟩
   ·exact Or.inr ⟨by rw[List.any_cons,h1,Bool.or_false];simpa using h',by simp only[List.cons_append,j8,if_neg h,h2]⟩
theorem sH (j:Nat) : ∀ (i:Nat) (vs:List AV),((C0 i vs).any λ p=>p.1 == j)=true->j<i+vs.length
 | _,[],h=>by simp [C0]at h
 | i,v::r,h=>by
  simp only[C0,List.any_cons,Bool.or_eq_true,beq_iff_eq]at h;rcases h with h|h
  ·simp;omega
  ·have:=sH j (i+1) r h
   simp;omega
theorem vU (j:Nat) : ∀ (i:Nat) (vs:List AV),((C0 i vs).any λ p=>p.1 == j)=false->j8 (C0 i vs) j = .any
 | _,[],_=>rfl
 | i,v::r,h=>by
  simp only[C0,List.any_cons,Bool.or_eq_false_iff,beq_eq_false_iff_ne]at h;simp only[C0,j8];rw[if_neg λ e=>h.1 e.symm,vU j (i+1) r h.2]
theorem SF (σ:FP):BG σ .any = .any:=rfl
def ZY (tm:Tm):List KE->Option (List AV)
 | []=>some []
 | .tmp t::r=>match JS (tg tm t),ZY tm r with
  | some v,some vs=>some (v::vs)
  | _,_=>none
 | .cell _ _ _::_=>none
def iR (N:Nat):List KE->Bool
 | []=>true
 | .tmp t::r=>Nat.blt t N&&iR N r
 | .cell _ _ _::_=>false
def wX (N:Nat) (fn:AFn) (tm:Tm) (K:AV->Mem->Prop) (da:Tm) (M':Mem):Prop:=gh N da=tm /\ ∃ rs,ZY da fn.res=some rs/\K (IH rs) M'
theorem AmG {σ:FP} {v u:AV} (h:JS v=some u):u=v/\BG σ v=BS σ v/\JS (BG σ v)=some (BG σ v):=by
 cases v<;>simp [JS]at h<;>subst h<;>exact ⟨rfl,rfl,rfl⟩
theorem uM {σ:FP} {da:Tm} {M:Mem} {s s':St} (hr:RX σ da M s') (qk : ∀ j,j<N->j8 s'.tm j=j8 s.tm j) : ∀ {res:List KE} {rs:List AV},iR N res=true->ZY da res=some rs->res.mapM (E8 s)=some (rs.map (BS σ)) /\ ∀ v∈rs,BG σ v=BS σ v
 | [],rs,_,h=>by
  simp only[ZY,Option.some.injEq]at h;subst h;exact ⟨rfl,by simp⟩
 | .cell _ _ _::_,_,_,h=>by simp [ZY]at h
 | .tmp t::r,rs,hl,h=>by
  simp only[iR,Bool.and_eq_true]at hl;simp only[ZY]at h;cases h1:JS (tg da t) with
  | none=>rw[h1]at h;simp at h
  | some v =>
   cases h2:ZY da r with
   | none=>rw[h1,h2]at h;simp at h
   | some vs =>
    rw[h1,h2]at h;simp only[Option.some.injEq]at h;subst h;obtain ⟨i1,i2⟩:=uM hr qk hl.2 h2;obtain ⟨rfl,j2,j3⟩:=AmG (σ:=σ) h1;have:j8 s.tm t=BG σ (tg da t):=by
     rcases hr.tm t with e|e
     ·rw[e]at h1;cases h1
     ·rw[<-qk t (aJ.1 hl.1),e]
    refine ⟨?_,?_⟩
    ·rw[j2]at j3 this
     simp only[List.mapM_cons,E8,this,j3,i1,List.map_cons];rfl
    ·intro v hv
     simp only[List.mem_cons]at hv;rcases hv with rfl|hv
     ·exact j2
     ·exact i2 v hv
theorem Wi {σ:FP} {rs:List AV} (h : ∀ v∈rs,BG σ v=BS σ v):IH (rs.map (BS σ))=BG σ (IH rs):=by
 match rs,h with
 | [],_=>rfl
 | [v],h=>exact (h v (by simp)).symm
 | _::_::_,_=>rfl
theorem GF {f:Nat} {fn:AFn} {vs:List AV} {tm:Tm} {M:Mem} {K:AV->Mem->Prop} (N:Nat) (hL:L f=some fn) (hp:Nat.beq vs.length fn.cu=true) (hN:(Nat.ble fn.cu N&&(IR N fn.body&&iR N fn.res))=true)
  (h:AA L [.code fn.body] (C0 0 vs++GP N tm) M (wX N fn tm K)):A8 L f vs tm M K:=by
 intro σ own hs;simp only[Bool.and_eq_true]at hN;obtain ⟨n1,n2,n3⟩:=hN;have n1:=Nat.le_of_ble_eq_true n1;have hp:vs.length=fn.cu:=Nat.eq_of_beq_eq_true hp;have Oj:RX σ (C0 0 vs++GP N tm) M ⟨TT (BG σ) (C0 0 vs++GP N tm),own⟩:=⟨λ j=>Or.inr (by rw[OL];exact OM (SF σ) j _),hs⟩;obtain ⟨n,c,s',hr,σ',da,M',hR,hg,rs,Oh,hk⟩:=h σ _ Oj;have Mv:Gh N (TT (BG σ) (GP N tm)) (C0 0 (vs.map (BG σ))) (TT (BG σ) (C0 0 vs++GP N tm)):=by
  constructor
  ·intro j hj
   rw[sI,OM (SF σ),OM (SF σ)];rcases jF j (GP N tm) (C0 0 vs) with ⟨_,e⟩|⟨hn,e⟩
   ·rw[e]
   ·rw[e,vW hj,vU j 0 vs hn]
  ·intro j hj
   rw[OM (SF σ),OM (SF σ)];rcases jF j (GP N tm) (C0 0 vs) with ⟨hn,e⟩|⟨_,e⟩
   ·have:=sH j 0 vs hn
    omega
   ·rw[e]
 obtain ⟨s,r1,r2,r3⟩:=JT n (by simp [ZR,n2]) Mv hr;obtain ⟨i1,i2⟩:=uM (s:=s) hR r3.lo n3 Oh;refine ⟨IH rs,s.own,σ',M',GR.intro hL (by simpa using hp) ⟨n,c,s,r1,?_,rfl⟩,?_,?_,hk⟩
 ·rw[i1,Option.map_some,Wi i2]
 ·rw[<-r2];exact hR.sat
 ·intro j
  have e1:tg tm j=tg da (N+j):=by rw[OL,OL,<-hg,vT]
  rcases hR.tm (N+j) with e|e
  ·rw[e1,e];rfl
  ·rw[e1,<-e,r3.hi (N+j) (by omega),OM (SF σ),vV,<-OL,e1]
theorem cK {α:Type} {enc:α->List AV} {l:List α} {i:Nat} {vs:List AV} {K:List (List AV)->Prop} (n:Nat) (e:α) (hn:i=n) (he:vs=enc e) (hz : ∀ x,(enc x).length=vs.length) (hi:n<l.length) (h:K ((l.set n e).map enc)):A6 (l.map enc) i 0 vs K:=by
 subst hn;exact Afh e he hz hi h
theorem HM {x:Int} {len:Nat} {K:Nat->Nat->Prop} (h:Nat) (hx:x=h) (hl:h<=len) (hk:K 0 h):BX none (some x) len K:=⟨0,h,rfl,⟨by omega,by omega,by omega⟩,by omega,hk⟩
theorem AeP {x:Int} {len:Nat} {K:Nat->Nat->Prop} (a:Nat) (hx:x=a) (hl:a<=len) (hk:K a len):BX (some x) none len K:=⟨a,len,⟨by omega,by omega⟩,rfl,by omega,hk⟩
end Go.e8

namespace Go.e8
abbrev BB:Nat:=4294967296
@[irreducible] def EO (a b : Nat) : Nat := (a + 18446744073709551616 - b) % 18446744073709551616
theorem bU (a b:Nat):EO a b=(a+18446744073709551616-b)%18446744073709551616:=by unfold EO;rfl
def val:List Nat->Nat
 | []=>0
 | d::l=>d+4294967296*val l
def A1 (l:List Nat):Prop := ∀ d∈l,d<4294967296
def dg (n:Nat):List Nat:=if h:n=0 then [] else n%4294967296::dg (n/4294967296)
termination_by n
decreasing_by omega
theorem E2:dg 0=[]:=by rw[dg];simp
theorem J0 {n:Nat} (h:n≠0):dg n=n%4294967296::dg (n/4294967296):=by rw[dg];simp [h]
theorem JW:val []=0:=rfl
theorem Y8 (d:Nat) (l:List Nat):val (d::l)=d+4294967296*val l:=rfl
theorem BW (n:Nat):val (dg n)=n:=by
 induction n using Nat.strongRecOn with
 | ind n ih =>
  by_cases h:n=0
  ·subst h;rw[E2];rfl
  ·rw[J0 h,Y8,ih _ (by omega)]
   omega
theorem DW (n:Nat):A1 (dg n):=by
 induction n using Nat.strongRecOn with
 | ind n ih =>
  by_cases h:n=0
  ·subst h;rw[E2];intro d hd;cases hd
  ·rw[J0 h]
   intro d hd;rcases List.mem_cons.1 hd with rfl|hd
   ·omega
   ·exact ih _ (by omega) d hd
theorem A1.tail {d:Nat} {l:List Nat} (h:A1 (d::l)):A1 l:=λ x hx=>h x (List.mem_cons_of_mem _ hx)
theorem A1.head {d:Nat} {l:List Nat} (h:A1 (d::l)):d<4294967296:=h d List.mem_cons_self
theorem A1.at {l:List Nat} (h:A1 l) {i d:Nat} (hd:l[i]? = some d):d<4294967296:=h d (zM hd)
theorem A1.take {l:List Nat} (h:A1 l) (n:Nat):A1 (l.take n):=λ x hx=>h x (List.mem_of_mem_take hx)
theorem A1.drop {l:List Nat} (h:A1 l) (n:Nat):A1 (l.drop n):=λ x hx=>h x (List.mem_of_mem_drop hx)
theorem cS:A1 []:=λ_ h=>by cases h
theorem A1.append {a b:List Nat} (h:A1 a) (h':A1 b):A1 (a++b):=λ x hx=>(List.mem_append.1 hx).elim (h x) (h' x)
theorem HS {d:Nat} (h:d<4294967296):A1 [d]:=λ x hx=>by simp at hx;omega
theorem A1.set {l:List Nat} (h:A1 l) (i:Nat) {d:Nat} (hd:d<4294967296):A1 (l.set i d):=λ x hx=>by
 rcases List.mem_or_eq_of_mem_set hx with h1|h1
 ·exact h x h1
 ·omega
theorem J3 (n:Nat):A1 (List.replicate n 0):=λ x hx=>by rw[(List.mem_replicate.1 hx).2];omega
theorem eL (a b:List Nat):val (a++b)=val a+4294967296^a.length*val b:=by
 induction a with
 | nil=>simp [val]
 | cons d l ih=>rw[List.cons_append,Y8,Y8,ih,List.length_cons,Nat.pow_succ];grind
theorem WU (l:List Nat) (v:Nat):val (l++[v])=val l+4294967296^l.length*v:=by
 rw[eL];simp [val]
theorem E3 {l:List Nat} (h:A1 l):val l<4294967296^l.length:=by
 induction l with
 | nil=>simp [val]
 | cons d l ih =>
  have h1:=ih h.tail;have h2:=h.head;rw[Y8,List.length_cons,Nat.pow_succ];omega
theorem EC {l:List Nat} {i v:Nat} (h:l[i]? = some v):val (l.take (i+1))=val (l.take i)+4294967296^i*v:=by
 have hi:=(zS h).1;rw[List.take_add_one,h,Option.toList_some,WU,List.length_take,Nat.min_eq_left (by omega)]
theorem ON (l:List Nat) (i:Nat) (h:i<=l.length):val l=val (l.take i)+4294967296^i*val (l.drop i):=by
 have:=eL (l.take i) (l.drop i)
 rw[List.take_append_drop,List.length_take,Nat.min_eq_left h]at this;exact this
theorem oF (n:Nat):val (List.replicate n 0)=0:=by
 induction n with
 | zero=>rfl
 | succ n ih=>rw[List.replicate_succ,Y8,ih]
theorem Ag6 {l:List Nat} (h:A1 l) (ht:l=[] \/ ∃ d,l[l.length-1]? = some d/\d≠0):dg (val l)=l:=by
 induction l with
 | nil=>exact E2
 | cons d l ih =>
  have h1:=h.head;by_cases hl:l=[]
  ·subst hl
   rcases ht with ht|⟨x,hx,rz⟩
   ·cases ht
   ·simp at hx
    subst hx;rw[Y8,JW,J0 (by omega),show (d+4294967296*0)/4294967296=0 by omega,E2,show (d+4294967296*0)%4294967296=d by omega]
  ·have ql : ∃ x,l[l.length-1]? = some x/\x≠0:=by
    rcases ht with ht|⟨x,hx,rz⟩
    ·cases ht
    ·refine ⟨x,?_,rz⟩
     have:l.length≠0:=λ e=>hl (List.eq_nil_of_length_eq_zero e)
     rw[List.length_cons,show l.length+1-1=(l.length-1)+1 by omega,List.getElem?_cons_succ]at hx;exact hx
   have Ps:=ih h.tail (Or.inr ql);have xn:val l≠0:=by
    intro e;rw[e,E2]at Ps;exact hl Ps.symm
   rw[Y8,J0 (by omega),show (d+4294967296*val l)/4294967296=val l by omega,Ps,show (d+4294967296*val l)%4294967296=d by omega]
theorem GK {l:List Nat} (h:A1 l) {n:Nat} (hn:n<=l.length) (hz : ∀ i,n<=i->i<l.length->l[i]? = some 0) (ht:n=0 \/ ∃ d,l[n-1]? = some d/\d≠0):l.take n=dg (val l):=by
 have hv:val l=val (l.take n):=by
  have h0:l.drop n=List.replicate (l.length-n) 0:=by
   apply List.ext_getElem?;intro i;rw[List.getElem?_drop,List.getElem?_replicate];by_cases hi:n+i<l.length
   ·rw[hz (n+i) (by omega) hi,if_pos (by omega)]
   ·rw[List.getElem?_eq_none (by omega),if_neg (by omega)]
  rw[ON l n hn,h0,oF];omega
 rw[hv];refine (Ag6 (h.take n) ?_).symm;rcases ht with rfl|⟨d,hd,Aa⟩
 ·exact Or.inl (by simp)
 ·have m7:=(zS hd).1
  by_cases vj:n=0
  ·subst vj;exact Or.inl (by simp)
  ·refine Or.inr ⟨d,?_,Aa⟩
   rw[List.length_take,Nat.min_eq_left hn,List.getElem?_take,if_pos (by omega)];exact hd
theorem XN {n k:Nat}:(dg n).length<=k↔n<4294967296^k:=by
 induction k generalizing n with
 | zero =>
  by_cases h:n=0
  ·subst h;simp [E2]
  ·rw[J0 h];simp;omega
 | succ k ih =>
  by_cases h:n=0
  ·subst h;simp [E2];exact Nat.pos_of_ne_zero (by simp)
  ·rw[J0 h,List.length_cons,Nat.succ_le_succ_iff,ih,Nat.pow_succ]
   rw[Nat.div_lt_iff_lt_mul (by omega)]
theorem EX {l:List Nat} (h:A1 l):(dg (val l)).length<=l.length:=XN.2 (E3 h)
theorem qG {n:Nat} (h:n≠0) : ∃ d,(dg n)[(dg n).length-1]? = some d/\d≠0:=by
 induction n using Nat.strongRecOn with
 | ind n ih =>
  rw[J0 h];by_cases h2:n/4294967296=0
  ·rw[h2,E2]
   exact ⟨n%4294967296,by simp,by omega⟩
  ·obtain ⟨d,hd,Aa⟩:=ih _ (by omega) h2
   refine ⟨d,?_,Aa⟩;have hl:(dg (n/4294967296)).length≠0:=λ e=>by rw[List.eq_nil_of_length_eq_zero e]at hd;simp at hd
   rw[List.length_cons,show (dg (n/4294967296)).length+1-1=(dg (n/4294967296)).length-1+1 by omega,List.getElem?_cons_succ];exact hd
theorem qD {n:Nat}:dg n=[]↔n=0:=by
 constructor
 ·intro h
  by_cases h0:n=0
  ·exact h0
  ·rw[J0 h0]at h;cases h
 ·rintro rfl;exact E2
theorem gB {n:Nat} (h:n≠0):1<=(dg n).length:=by rw[J0 h];simp
theorem Am1 {o:List Nat} {i v:Nat} (h:i<o.length):(o.set i v).take (i+1)=o.take i++[v]:=by
 rw[List.take_add_one,List.getElem?_set_self h,List.take_set_of_le (Nat.le_refl i)];rfl
theorem F7 {o:List Nat} {i v:Nat} (h:i<o.length):val ((o.set i v).take (i+1))=val (o.take i)+4294967296^i*v:=by
 rw[Am1 h,WU,List.length_take,Nat.min_eq_left (by omega)]
theorem YE (V p t:Nat):V+p*(t%4294967296)+p*4294967296*(t/4294967296)=V+p*t:=by
 have h:=Nat.mod_add_div t 4294967296;have:p*(t%4294967296)+p*4294967296*(t/4294967296)=p*t:=by
  rw[Nat.mul_assoc,<-Nat.mul_add,h]
 omega
theorem DD {l:List Nat} {n:Nat} (h:l.length<=n):val (l.take n)=val l:=by rw[List.take_of_length_le h]
theorem Vx (i:Nat):1<=4294967296^i:=Nat.pos_of_ne_zero (by simp)
theorem HL {l:List Nat} {i d:Nat} (h:l[i]? = some d):val (l.drop i)=d+4294967296*val (l.drop (i+1)):=by
 obtain ⟨hi,rfl⟩:=zS h;rw[List.drop_eq_getElem_cons hi,Y8]
theorem oB {a b:List Nat} (ha:A1 a) (hb:A1 b) (hl:a.length=b.length) {i:Nat} {x y:Nat} (hx:a[i]? = some x) (hy:b[i]? = some y) (he:a.drop (i+1)=b.drop (i+1)) (h:x<y):val a<val b:=by
 have hia:=(zS hx).1;have hib:=(zS hy).1;rw[ON a i (by omega),ON b i (by omega),HL hx,HL hy,he];have h1:=E3 (ha.take i);rw[List.length_take,Nat.min_eq_left (by omega)]at h1;generalize val (b.drop (i+1))=r;generalize 4294967296^i=p at *;have:p*(x+4294967296*r)+p<=p*(y+4294967296*r):=by
  rw[<-Nat.mul_succ];exact Nat.mul_le_mul_left p (by omega)
 omega
theorem oC {o:List Nat} {k v old:Nat} (h:o[k]? = some old):val (o.set k v)+4294967296^k*old=val o+4294967296^k*v:=by
 have hk:=(zS h).1;have h1:val (o.set k v)=val (o.take k)+4294967296^k*(v+4294967296*val (o.drop (k+1))):=by
  rw[ON (o.set k v) k (by simp;omega),List.take_set_of_le (Nat.le_refl k),HL (l:=o.set k v) (d:=v) (by rw[List.getElem?_set_self hk]),List.drop_set_of_lt (by omega)]
 have h2:val o=val (o.take k)+4294967296^k*(old+4294967296*val (o.drop (k+1))):=by
  rw[ON o k (by omega),HL h]
 rw[h1,h2,Nat.mul_add,Nat.mul_add];omega
theorem jD {l:List Nat} (h:A1 l):l.take (dg (val l)).length=dg (val l):=by
 induction l with
 | nil=>rw[JW,E2];rfl
 | cons d l ih =>
  have h1:=h.head;by_cases h0:val (d::l)=0
  ·rw[h0,E2];rfl
  ·rw[J0 h0,Y8,show (d+4294967296*val l)/4294967296=val l by omega,show (d+4294967296*val l)%4294967296=d by omega,List.length_cons,List.take_succ_cons,ih h.tail]
theorem eN {a b:Nat} (h:(dg a).length<(dg b).length):a<b:=by
 have h1:a<4294967296^(dg a).length:=XN.1 (Nat.le_refl _);have h2 : ¬ b<4294967296^((dg b).length-1):=λ h3=>by have:=XN.2 h3;omega
 have h3:4294967296^(dg a).length<=4294967296^((dg b).length-1):=Nat.pow_le_pow_right (by omega) (by omega);omega
end Go.e8

namespace Go.e8
section
variable {K:AV->Prop} {a b:Nat} {k':IntKind}
theorem wrap_u32 (n:Nat):IntKind.u32.wrap (n:Int)=((n%4294967296:Nat):Int):=by rw[IntKind.wrap_u32];omega
theorem An2 (n:Nat):IntKind.u64.wrap (n:Int)=((n%18446744073709551616:Nat):Int):=by
 simp [IntKind.wrap,IntKind.bits,IntKind.signed]
theorem GA (h:a+b<=18446744073709551615) (hk:K (.int .u64 ((a+b:Nat):Int))):AD .add .u64 (a:Int) .u64 (b:Int) K :=
 ⟨_,by simp only[DI,if_true];rw[IntWalk.u64_in _ (by omega)],by simpa using hk⟩
theorem JY (h:b<=a) (h2:a<=18446744073709551615) (hk:K (.int .u64 ((a-b:Nat):Int))):AD .sub .u64 (a:Int) .u64 (b:Int) K :=
 ⟨_,by simp only[DI,if_true];rw[IntWalk.u64_in _ (by omega)],by rw[show (a:Int)-b=((a-b:Nat):Int) by omega];exact hk⟩
theorem jY (h:b<=18446744073709551616) (hk:K (.int .u64 ((EO a b:Nat):Int))):AD .sub .u64 (a:Int) .u64 (b:Int) K :=
 jT (v := .int .u64 (IntKind.u64.wrap ((a:Int)-b))) (by simp only[DI,if_true]) (by
  have e:IntKind.u64.wrap ((a:Int)-b)=((EO a b:Nat):Int):=by
   rw[bU];simp only[IntKind.wrap,IntKind.bits,IntKind.signed];simp;omega
  rw[e];exact hk)
theorem X8 (h:a*b<=18446744073709551615) (hk:K (.int .u64 ((a*b:Nat):Int))):AD .mul .u64 (a:Int) .u64 (b:Int) K :=
 ⟨_,by simp only[DI,if_true];rw[<-Int.natCast_mul,IntWalk.u64_in _ (by omega)],hk⟩
theorem jW (h:0<b) (h2:a<=18446744073709551615) (hk:K (.int .u64 ((a/b:Nat):Int))):AD .quo .u64 (a:Int) .u64 (b:Int) K:=by
 refine ⟨_,by simp only[DI];rw[if_pos ⟨trivial,by omega⟩],?_⟩;rw[IntWalk.u64_quo _ _ ⟨by omega,by omega,by omega⟩,<-Int.natCast_ediv];exact hk
theorem fG (h:0<b) (hk:K (.int .u64 ((a%b:Nat):Int))):AD .rem .u64 (a:Int) .u64 (b:Int) K:=by
 refine ⟨_,by simp only[DI];rw[if_pos ⟨trivial,by omega⟩],?_⟩;rw[IntWalk.rem_in _ _ (by omega),<-Int.natCast_emod];exact hk
theorem Am4 {k:IntKind} {n:Nat} (hn:n<=k.bits):DI .shl k (a:Int) k' (n:Int)=some (.int k (k.wrap ((a*2^n:Nat):Int))):=by
 simp only[DI];rw[if_neg (by omega),Int.toNat_natCast,Nat.min_eq_left hn];simp
theorem Am7 {k:IntKind} {n:Nat} (hn:n<=k.bits):DI .shr k (a:Int) k' (n:Int)=some (.int k ((a/2^n:Nat):Int)):=by
 simp only[DI];rw[if_neg (by omega),Int.toNat_natCast,Nat.min_eq_left hn,Int.fdiv_eq_ediv_of_nonneg _ (Int.le_of_lt (Int.pow_pos (by omega)))];simp
theorem oN {k:IntKind} {n:Nat} (hn:n<=k.bits) (hk:K (.int k (k.wrap ((a*2^n:Nat):Int)))):AD .shl k (a:Int) k' (n:Int) K:=⟨_,Am4 hn,hk⟩
theorem YA {k:IntKind} {n:Nat} (hn:n<=k.bits) (hk:K (.int k ((a/2^n:Nat):Int))):AD .shr k (a:Int) k' (n:Int) K:=⟨_,Am7 hn,hk⟩
theorem XA (h:a<=4294967295) (hk:K (.int .u64 ((a*4294967296:Nat):Int))):AD .shl .u64 (a:Int) k' 32 K:=by
 refine oN (n:=32) (by decide) ?_;rw[An2,show a*2^32%18446744073709551616=a*4294967296 by omega];exact hk
theorem FJ (hk:K (.int .u64 ((a/4294967296:Nat):Int))):AD .shr .u64 (a:Int) k' 32 K:=YA (n:=32) (by decide) hk
theorem jX (hk:K (.int .u64 ((a/9223372036854775808:Nat):Int))):AD .shr .u64 (a:Int) k' 63 K:=YA (n:=63) (by decide) hk
theorem Ae3 (hk:K (.int .u64 ((a/4:Nat):Int))):AD .shr .u64 (a:Int) k' 2 K:=YA (n:=2) (by decide) hk
theorem Ae2 (hk:K (.int .u32 ((a/65536:Nat):Int))):AD .shr .u32 (a:Int) k' 16 K:=YA (n:=16) (by decide) hk
theorem Ae4 (hk:K (.int .u32 ((a/256:Nat):Int))):AD .shr .u32 (a:Int) k' 8 K:=YA (n:=8) (by decide) hk
theorem Ae1 (hk:K (.int .u32 ((a/2:Nat):Int))):AD .shr .u32 (a:Int) k' 1 K:=YA (n:=1) (by decide) hk
theorem tP (w n:Nat):(BitVec.ofInt w (n:Int)).toNat=n%2^w:=by rw[BitVec.toNat_ofInt];omega
theorem Amc {n x y:Nat} (hx:x%2^n=0) (hy:y<2^n):x ||| y=x+y:=by
 have e:x=2^n*(x/2^n):=by have:=Nat.mod_add_div x (2^n);omega
 rw[e,<-Nat.two_pow_add_eq_or_of_lt hy]
theorem oM {k:IntKind} (n:Nat) (hx:a%2^n=0) (hy:b<2^n) (h:a+b<2^k.bits) (hw:k.wrap ((a+b:Nat):Int)=((a+b:Nat):Int)) (hk:K (.int k ((a+b:Nat):Int))):AD .or k (a:Int) k (b:Int) K:=by
 refine jT (v := .int k (k.wrap (BitVec.ofInt k.bits (a:Int) ||| BitVec.ofInt k.bits (b:Int)).toNat)) (by simp only[DI,if_true]) ?_;rw[BitVec.toNat_or,tP,tP,Nat.mod_eq_of_lt (by omega),Nat.mod_eq_of_lt (by omega),Amc hx hy,hw];exact hk
theorem X9 (h:a%4294967296=0/\b<4294967296/\a+b<=18446744073709551615) (hk:K (.int .u64 ((a+b:Nat):Int))):AD .or .u64 (a:Int) .u64 (b:Int) K :=
 oM 32 h.1 h.2.1 (show a+b<18446744073709551616 by omega) (IntWalk.u64_in _ (by omega)) hk
theorem wR (h:a<=18446744073709551615) (hk:K (.int .u64 ((a%4294967296:Nat):Int))):AD .and .u64 (a:Int) .u64 4294967295 K:=by
 refine jT (v := .int .u64 (IntKind.u64.wrap (BitVec.ofInt IntKind.u64.bits (a:Int) &&& BitVec.ofInt IntKind.u64.bits 4294967295).toNat)) (by simp only[DI,if_true]) ?_;rw[BitVec.toNat_and,tP,show (BitVec.ofInt IntKind.u64.bits 4294967295).toNat=2^32-1 by decide,Nat.and_two_pow_sub_one_eq_mod,show a%2^IntKind.u64.bits=a from Nat.mod_eq_of_lt (show a<18446744073709551616 by omega),IntWalk.u64_in _ (by omega)];exact hk
theorem wP (hk:K (.int .u32 (((a+b)%4294967296:Nat):Int))):AD .add .u32 (a:Int) .u32 (b:Int) K :=
 jT (v := .int .u32 (IntKind.u32.wrap ((a:Int)+b))) (by simp only[DI,if_true]) (by rw[<-Int.natCast_add,wrap_u32];exact hk)
end
section
variable {K:Int->Prop} {n:Nat}
theorem wJ (h:n<=18446744073709551615) (hk:K (n:Int)):AU .u64 (n:Int) K:=eU (IntWalk.u64_in _ (by omega)) hk
theorem EJ (h:n<=4294967295) (hk:K (n:Int)):AU .u32 (n:Int) K:=eU (IntWalk.u32_in _ (by omega)) hk
theorem FR (hk:K ((n%4294967296:Nat):Int)):AU .u32 (n:Int) K:=by unfold AU;rw[wrap_u32];exact hk
theorem AeU (h:n<=255) (hk:K (n:Int)):AU .u8 (n:Int) K:=eU (IntWalk.u8_in _ (by omega)) hk
end
theorem kE {tb:List Nat} {n v:Nat} {K:Nat->Prop} (hv:tb[n]? = some v) (hk:K v):aH tb (n:Int) K:=⟨by omega,v,by rw[Int.toNat_natCast];exact hv,hk⟩
abbrev AL (n:Nat):List AV:=[.int .u32 (n:Int)]
theorem CQ (l:List Nat):FH (l.map AL):=aM (λ_=>by simp [CE,A0]) l
section
variable {l:List Nat} {K:List AV->Prop}
theorem kA {n:Nat} (hD:A1 l) (hn:n<l.length) (h : ∀ e,l[n]? = some e->e<4294967296->K (AL e)):AW (l.map AL) (n:Int) 1 K :=
 Afb hn (λ_=>rfl) λ e he=>h e he (hD.at he)
theorem ZC {a:Int} (hD:A1 l) (hn:0<=a/\a<l.length) (h : ∀ e,l[a.toNat]? = some e->e<4294967296->K (AL e)):AW (l.map AL) a 1 K :=
 oQ hn (λ_=>rfl) λ e he=>h e he (hD.at he)
theorem wO {i:Nat} (hD:A1 l) (hi:i<l.length) (h : ∀ e,l[i]? = some e->e<4294967296->K (AL e)):BA (l.map AL) (0+((i:Int)).toNat) 0 1 K :=
 GI (f:=AL) hi (λ_=>rfl) λ e he=>h e he (hD.at he)
theorem aF {i:Int} (hD:A1 l) (hi:0<=i/\i<l.length) (h : ∀ e,l[i.toNat]? = some e->e<4294967296->K (AL e)):BA (l.map AL) (0+i.toNat) 0 1 K :=
 Ae0 (f:=AL) hi (λ_=>rfl) λ e he=>h e he (hD.at he)
theorem FB {i v:Nat} {KK:List (List AV)->Prop} (hi:i<l.length) (h:KK ((l.set i v).map AL)):A6 (l.map AL) (0+((i:Int)).toNat) 0 [.int .u32 (v:Int)] KK:=FX (enc:=AL) v rfl (λ_=>rfl) hi h
theorem kD {i v:Nat} {KK:List (List AV)->Prop} (n:Nat) (hn:i=n) (hi:n<l.length) (h:KK ((l.set n v).map AL)):A6 (l.map AL) i 0 [.int .u32 (v:Int)] KK:=cK (enc:=AL) n v hn rfl (λ_=>rfl) hi h
end
end Go.e8
namespace Go.e8
variable {L:Lib}
theorem Ev.xE {f:Nat} {fn:AFn} {vs:List AV} {P:AV->Prop} (hL:L f=some fn) (hp:Nat.beq vs.length fn.cu=true) (hd:O3 vs=true) (h:AA L [.code fn.body] (C0 0 vs) [] (λ tm M => ∃ r,ZD fn r tm M/\P r)) (hs:fn.sn=false:=by rfl) : ∃ r,Ev L f vs r/\P r:=by
 obtain ⟨n,c,l7,hr,σ,tm,M,hR,r,hq,hP⟩:=h (λ_ _=>(0,0)) ⟨C0 0 vs,AH.emp⟩ ⟨λ j=>Or.inr (by rw[OL];exact fZ hd j),⟨(λ_ _ _ e=>by cases e),(λ_ _ _ e=>by simp [c7,g9]at e),(λ_ _ _ e=>by simp [c7,g9]at e),(λ_ _ _ _ _ _ e=>by simp [c7,g9]at e),(λ_ _ _ e=>by simp [c7,g9]at e)⟩⟩;exact ⟨r,Ev.fwd hL (BL.1 hp) ⟨n,c,l7,hr,wZ hR hq⟩ hs,hP⟩
def dV:D4->Bool
 | .ag .. | .box .. | .alloc .. | .g8 .. | .st .. | .mk .. | .app .. | .j7 .. | .o7 .. | .px .. | .x9 .. | .pz .. | .dv .. => false
 | _=>true
def IU:BH->Bool
 | .skip=>true
 | .ops l _=>l.all λ a=>dV a.op
 | .dr c _ ss=>IU c&&ss.isEmpty
 | .scope c=>IU c
 | .seq a b=>IU a&&IU b
 | .cond _ a b=>IU a&&IU b
 | .block _ c=>IU c
 | .loop c=>IU c
 | .exit _=>true
 | .ret=>true
def YO:It->Bool
 | .code c=>IU c
 | .mr _ ss=>ss.isEmpty
 | .j5 _=>true
 | .lp c=>IU c
theorem Aiu {C:Cl} {g7:List Nat} {ρ:AQ->AV} {own:AH} {op:D4} {E:CG} (ho:dV op=true) (h:j6 C g7 ρ own op=some E) : ∃ v,E = .val v:=by
 cases op<;>first|(simp [dV]at ho;done)|skip
 all_goals simp only[j6]at h
 all_goals
  first
   | (simp only[Option.some.injEq]at h;exact ⟨_,h.symm⟩)
   | (simp only[Option.map_eq_some_iff]at h;obtain ⟨_,_,rfl⟩:=h;exact ⟨_,rfl⟩)
   | skip
 all_goals (repeat' split at h)
 all_goals
  first
   | (cases h;done)
   | (simp only[Option.some.injEq]at h;exact ⟨_,h.symm⟩)
   | (simp only[Option.map_eq_some_iff]at h;obtain ⟨_,_,rfl⟩:=h;exact ⟨_,rfl⟩)
theorem Anr {C:Cl} {a:AI} (ho:dV a.op=true) {s s':St} (h:C6 C a s=some s'):s'.own=s.own:=by
 unfold C6 at h;split at h
 ·cases he:j6 C a.g7 s.ev s.own a.op with
  | none=>rw[he]at h;cases h
  | some E =>
   rw[he]at h;obtain ⟨v,rfl⟩:=Aiu ho he;simp only[Option.map_some,Option.some.injEq]at h;subst h;simp only[St.app];cases a.dst<;>rfl
 ·simp only[Option.some.injEq]at h
  subst h;cases a.dst<;>rfl
 ·cases h
theorem Yc {C:Cl} : ∀ {l:List AI},(l.all λ a=>dV a.op)=true -> ∀ {s s':St},DC C l s=some s'->s'.own=s.own
 | [],_,s,s',h=>by simp only[DC,Option.some.injEq]at h;rw[h]
 | a::l,ho,s,s',h=>by
  simp only[List.all_cons,Bool.and_eq_true]at ho;simp only[DC]at h;cases h1:C6 C a s with
  | none=>rw[h1]at h;cases h
  | some s1 =>
   rw[h1]at h;rw[Yc ho.2 h,Anr ho.1 h1]
theorem gP {id:Nat} : ∀ {k k':List It},k.all YO=true->DX id k=some k'->k'.all YO=true
 | [],_,_,h=>by simp [DX]at h
 | it::k,k',hk,h=>by
  simp only[List.all_cons,Bool.and_eq_true]at hk;cases it with
  | j5 i =>
   simp only[DX]at h;split at h
   ·cases h;exact hk.2
   ·exact gP hk.2 h
  | code c=>simp only[DX]at h;exact gP hk.2 h
  | mr a b=>simp only[DX]at h;exact gP hk.2 h
  | lp c=>simp only[DX]at h;exact gP hk.2 h
theorem JV {C:Cl} : ∀ (n:Nat) {k:List It},k.all YO=true -> ∀ {s s':St},run C n k s=some s'->s'.own=s.own
 | 0,k,_,s,s',h=>by simp [run]at h
 | n+1,[],_,s,s',h=>by
  simp only[run,Option.some.injEq]at h;rw[h]
 | n+1,it::k,hk,s,s',h=>by
  have jy:=hk;simp only[List.all_cons,Bool.and_eq_true]at hk;obtain ⟨hi,hk⟩:=hk;cases it with
  | j5 _=>simp only[run]at h;exact JV n hk h
  | mr ts ss =>
   have:ss=[]:=by simpa [YO] using hi
   subst this;simp only[run]at h;rw[JV n hk h];rfl
  | lp c=>simp only[run]at h;exact JV n (by simp only[List.all_cons,Bool.and_eq_true];exact ⟨hi,hi,hk⟩) h
  | code c =>
   cases c with
   | skip=>simp only[run]at h;exact JV n hk h
   | ops l d =>
    simp only[run]at h;cases h1:DC C l s with
    | none=>rw[h1]at h;cases h
    | some s1 =>
     rw[h1]at h;rw[JV n hk h,Yc (show (l.all λ a=>dV a.op)=true from hi) h1]
   | dr c ts ss =>
    simp only[run]at h;simp only[YO,IU,Bool.and_eq_true]at hi;exact JV n (by simp only[List.all_cons,Bool.and_eq_true];exact ⟨hi.1,hi.2,hk⟩) h
   | scope c=>simp only[run]at h;exact JV n (by simp only[List.all_cons,Bool.and_eq_true];exact ⟨hi,hk⟩) h
   | seq a b =>
    simp only[run]at h;simp only[YO,IU,Bool.and_eq_true]at hi;exact JV n (by simp only[List.all_cons,Bool.and_eq_true];exact ⟨hi.1,hi.2,hk⟩) h
   | cond x a b =>
    simp only[YO,IU,Bool.and_eq_true]at hi;simp only[run]at h;split at h
    ·exact JV n (by simp only[List.all_cons,Bool.and_eq_true];exact ⟨hi.1,hk⟩) h
    ·exact JV n (by simp only[List.all_cons,Bool.and_eq_true];exact ⟨hi.2,hk⟩) h
    ·cases h
   | block id c=>simp only[run]at h;exact JV n (by simp only[List.all_cons,Bool.and_eq_true];exact ⟨hi,rfl,hk⟩) h
   | loop c=>simp only[run]at h;exact JV n (by simp only[List.all_cons,Bool.and_eq_true];exact ⟨hi,hi,hk⟩) h
   | exit id =>
    simp only[run]at h;split at h
    ·rename_i k' he
     exact JV n (gP hk he) h
    ·cases h
   | ret =>
    simp only[run,Option.some.injEq]at h;rw[h]
def Afd (fn:AFn) (r:AV) (tm:Tm) (_M:Mem):Prop := ∃ rs,ZY tm fn.res=some rs/\IH rs=r
def lC:AV->Bool
 | .j9 vs=>O3 vs
 | v=>ZI v
theorem zU {σ:FP} {v:AV} (h:lC v=true):BG σ v=v:=by
 cases v with
 | j9 vs =>
  simp only[BG];congr 1;simp only[lC]at h;induction vs with
  | nil=>rfl
  | cons v r ih =>
   simp only[O3]at h;cases hv:ZI v<;>simp only[hv,cond_true,cond_false]at h
   ·cases h
   ·rw[List.map_cons,ih h]
    congr 1;cases v<;>first|rfl|(simp [ZI,wi]at hv;done)|skip
    rename_i cs;exact kZ (σ:=σ) (v := .agg cs) hv
 | _=>exact kZ (σ:=σ) h
def fI (L:Lib) (f:Nat) (vs:List AV) (r:AV):Prop:=lC r=true/\(∀ σ:FP,vs.map (BG σ)=vs) /\ ∀ own:AH,GR L f vs own r own
theorem zR {σ:FP} : ∀ {vs:List AV},O3 vs=true->vs.map (BG σ)=vs
 | [],_=>rfl
 | v::r,h=>by
  simp only[O3]at h;cases hv:ZI v<;>simp only[hv,cond_true,cond_false]at h
  ·cases h
  ·rw[List.map_cons,kZ hv,zR h]
theorem Afe {f:Nat} {fn:AFn} {vs:List AV} {r:AV} (hL:L f=some fn) (hp:Nat.beq vs.length fn.cu=true) (hd:O3 vs=true) (Hx:IU fn.body=true) (m7:iR 100000 fn.res=true) (hr:lC r=true) (h:AA L [.code fn.body] (C0 0 vs) [] (Afd fn r)):fI L f vs r:=by
 refine ⟨hr,λ σ=>zR hd,λ own => ?_⟩;obtain ⟨n,c,l7,u6,σ,tm,M,hR,rs,Oh,he⟩:=h (λ_ _=>(0,0)) ⟨C0 0 vs,own⟩ ⟨λ j=>Or.inr (by rw[OL];exact fZ hd j),⟨(λ_ _ _ e=>by cases e),(λ_ _ _ e=>by simp [c7,g9]at e),(λ_ _ _ e=>by simp [c7,g9]at e),(λ_ _ _ _ _ _ e=>by simp [c7,g9]at e),(λ_ _ _ e=>by simp [c7,g9]at e)⟩⟩;have ho:=JV n (by simp [YO,Hx]) u6;obtain ⟨i1,i2⟩:=uM (N:=100000) (s:=l7) hR (λ_ _=>rfl) m7 Oh;refine GR.intro hL (BL.1 hp) ⟨n,c,l7,u6,?_,ho⟩;rw[i1,Option.map_some,Wi i2,he,zU hr]
theorem OR {f:Nat} {vs:List AV} {r:AV} {tm:Tm} {M:Mem} {K:AV->Mem->Prop} (h:fI L f vs r) (hk:K r M):A8 L f vs tm M K:=by
 intro σ own hs;refine ⟨r,own,σ,M,?_,hs,λ_=>rfl,hk⟩;rw[h.2.1 σ,zU h.1];exact h.2.2 own
end Go.e8

namespace Go.e8
variable {L:Lib}
def wY (fn:AFn) (z:Nat) (es:List (List AV)) (tm:Tm) (M:Mem):Prop:=match fn.res with
 | [.tmp t]=>match tg tm t with
  | .row k 0 z' 0 n=>match g9 M k with
   | some (_,.rw jr es')=>z'=z/\jr=z/\n=es.length/\es'=es/\FH es
   | _=>False
  | _=>False
 | _=>False
theorem aB.x {f:Nat} {fn:AFn} {vs:List AV} {z:Nat} {es:List (List AV)} (hL:L f=some fn) (hp:Nat.beq vs.length fn.cu=true) (hd:O3 vs=true) (h:AA L [.code fn.body] (C0 0 vs) [] (wY fn z es)):aB L f vs z es:=by
 obtain ⟨n,c,l7,hr,σ,tm,M,hR,hq⟩:=h (λ_ _=>(0,0)) ⟨C0 0 vs,AH.emp⟩ ⟨λ j=>Or.inr (by rw[OL];exact fZ hd j),⟨(λ_ _ _ e=>by cases e),(λ_ _ _ e=>by simp [c7,g9]at e),(λ_ _ _ e=>by simp [c7,g9]at e),(λ_ _ _ _ _ _ e=>by simp [c7,g9]at e),(λ_ _ _ e=>by simp [c7,g9]at e)⟩⟩;unfold wY at hq;split at hq
 ·rename_i t rl
  split at hq
  ·rename_i k z' m htm
   split at hq
   ·rename_i s jr es' hM
    obtain ⟨rfl,rfl,rfl,rfl,o4⟩:=hq;have hv:j8 l7.tm t = .row (σ k 0).1 (σ k 0).2 jr 0 es'.length:=by
     rcases hR.tm t with e|e
     ·rw[htm]at e;cases e
     ·rw[e,htm];rfl
    have hb:=hR.sat.j5 k 0 (.rw jr es') (by simp only[c7,hM]);obtain ⟨q,hq⟩:=GR.intro (r := .row (σ k 0).1 (σ k 0).2 jr 0 es'.length) (o':=l7.own) hL (BL.1 hp) ⟨n,c,l7,hr,by simp [rl,E8,hv,JS,IH],rfl⟩;refine ⟨q,?_⟩;simp only[hq,XC,AH.get,hb];rw[if_pos (show (A5.j5 σ k (.rw jr es')).es.length=es'.length/\FH (A5.j5 σ k (.rw jr es')).es from ⟨rfl,o4⟩)];rfl
   ·exact hq.elim
  ·exact hq.elim
 ·exact hq.elim
theorem Aen {Q:Tm->Mem->Prop} {c:BH} {k:List It} {tm:Tm} {M:Mem} (n:Nat) (h:fT (ye 0 tm) λ tm=>fM (po M) λ M=>XK L Q n (.code c::k) tm M):AA L (.code c::k) tm M Q:=by
 rw[dG,O5]at h;exact wC (oS h)
theorem cB {α:Type} {enc:α->List AV} {l:List α} {f z:Nat} {vs:List AV} {K:Nat->List (List AV)->Nat->Prop} (n:Nat) (h:aB L f vs z (l.map enc)) (hn:n=l.length) (hk:K z (l.map enc) n):CT L f vs K:=⟨z,_,n,h,by simpa using hn,hk⟩
end Go.e8

namespace Go.e8
open F
attribute [local irreducible] AA AF AP AD CB AU AW BA A6 B2 AM BO B8 C8 BN A3 BX B9 AB A8 AJ pw BK BI CJ CK CU CR CI BT CT
variable {L:Lib}
set_option maxHeartbeats 1000000
def C9 (a b:Int):Int:=if a<b then -1 else if b<a then 1 else 0
theorem IZ {a b:Int} (h:a<b) : -1=C9 a b:=by unfold C9;rw[if_pos h]
theorem XM {a b:Int} (h:b<a):1=C9 a b:=by unfold C9;rw[if_neg (by omega),if_pos h]
theorem aN {a b:Int} (h:a=b):0=C9 a b:=by unfold C9;rw[if_neg (by omega),if_neg (by omega)]
theorem AiZ (N:j4 L) (a:Int):Ev L 58 [.int .i64 a] (.bool false):=by
 refine Ev.x N.SX rfl rfl ?_;(repeat' ((first|(apply AG<;>intro hc<;>try (exfalso;omega))|apply AE)<;>conv=>whnf))
 exact GG rfl
theorem Ai0 (N:j4 L) (a:Int):Ev L 59 [.int .u32 a] (.bool false):=by
 refine Ev.x N.SY rfl rfl ?_;(repeat' ((first|(apply AG<;>intro hc<;>try (exfalso;omega))|apply AE)<;>conv=>whnf))
 exact GG rfl
theorem AiC (N:j4 L) (a b:Int):Ev L 60 [.int .i64 a,.int .i64 b] (.int .i64 (C9 a b)):=by
 refine Ev.x N.SV rfl rfl ?_;(repeat' ((first|(apply AG<;>intro hc<;>try (exfalso;omega))|apply AE|refine AC (AiZ N _) ?_)<;>conv=>whnf))
 ·exact CX (IZ (by omega))
 ·exact CX (XM (by omega))
 ·exact CX (aN (by omega))
theorem AiD (N:j4 L) (a b:Int):Ev L 61 [.int .u32 a,.int .u32 b] (.int .i64 (C9 a b)):=by
 refine Ev.x N.SW rfl rfl ?_;(repeat' ((first|(apply AG<;>intro hc<;>try (exfalso;omega))|apply AE|refine AC (Ai0 N _) ?_)<;>conv=>whnf))
 ·exact CX (IZ (by omega))
 ·exact CX (XM (by omega))
 ·exact CX (aN (by omega))
theorem Qr (N:j4 L) (l:List Nat) (q:Bool) (hl:l.length<=1099511627776):Ev L 62 [.sl q (l.map AL)] (.sl false (l.map AL)):=by
 cases l with
 | nil =>
  refine FU.nil N.H5 (FU.x N.H5 rfl rfl ?_) (FU.x N.H5 rfl rfl ?_)
  ·(repeat' (apply AE<;>conv=>whnf))
   exact AX rfl (by simp [A0,FH])
  ·(repeat' (apply AE<;>conv=>whnf))
   refine jM (enc:=AL) (l:=[]) (l':=[]) rfl (λ_=>rfl) (by simp) (by simp) ?_;(conv=>whnf)
   (repeat' ((refine DH (λ_=>rfl) rfl ?_ ?_;(first|rfl|simp))<;>conv=>whnf))
   exact AX rfl (by simp [A0,FH])
 | cons d l =>
  refine FU.cons (FU.x N.H5 rfl rfl ?_);(repeat' (apply AE<;>conv=>whnf))
  refine AZ (by simp) ?_;(conv=>whnf)
  skip
  refine jM (enc:=AL) (l:=[]) (l':=d::l) rfl (λ_=>rfl) (by simp at hl ⊢;omega) (by simp at hl ⊢;omega) ?_;(conv=>whnf)
  (repeat' ((refine DH (λ_=>rfl) rfl ?_ ?_;(first|rfl|simp))<;>conv=>whnf))
  exact AX rfl (by simp only[A0,true_and];exact CQ (d::l))
theorem QH (N:j4 L) (l:List Nat) (q:Bool) (hD:A1 l) (hl:l.length<=1099511627776):fI L 65 [.sl q (l.map AL)] (.sl q ((dg (val l)).map AL)):=by
 refine Afe N.FQ rfl rfl rfl rfl rfl ?_;(repeat' ((first|apply AR|apply AE)<;>conv=>whnf))
 refine BQ (λ n=>n) (λ(n:Nat)=>n<=l.length /\ ∀ i,n<=i->i<l.length->l[i]? = some 0) (λ n=>[(3,.int .i64 n)]) (λ_=>[]) [] [] l.length (by (conv=>whnf);exact ⟨rfl,rfl,rfl⟩) ⟨Nat.le_refl _,λ i h1 h2=>by omega⟩ ?_;intro n ⟨p1,p2⟩ ih;rcases n with _|n
 ·(repeat' ((first|(apply AG<;>intro hc<;>try (exfalso;omega))|apply AE)<;>conv=>whnf))
  refine ZE (k:=0) (λ_=>rfl) (by omega) ?_;(conv=>whnf)
  refine ⟨_,rfl,?_⟩;rw[GK hD p1 p2 (Or.inl rfl)];rfl
 ·have e1:((n+1:Nat):Int)-1=n:=by omega
  (repeat' ((first|(apply AG<;>intro hc<;>try (exfalso;omega))|(apply B3;omega)|(refine ZC (by assumption) ?_ (λ e he hb => ?_);omega)|apply AE)<;>conv=>whnf))
  ·rw[e1]
   exact BF [] (ih n (by omega) ⟨by omega,λ i h1 h2=>by
    by_cases h:i=n
    ·subst h
     rw[e1,Int.toNat_natCast]at he;rw[he];congr 1;omega
    ·exact p2 i (by omega) h2⟩)
  ·refine ZE (k:=n+1) (λ_=>rfl) (by omega) ?_
   (conv=>whnf)
   refine ⟨_,rfl,?_⟩;rw[e1,Int.toNat_natCast]at he;rw[GK hD p1 p2 (Or.inr ⟨e,he,by omega⟩)];rfl
theorem gF (N:j4 L) (l:List Nat) (q:Bool) (hD:A1 l) (hl:l.length<=1099511627776):Ev L 66 [.sl q (l.map AL)] (.sl false ((dg (val l)).map AL)):=by
 have hc:=EX hD;refine Ev.x N.T6 rfl rfl ?_;(repeat' ((first|apply AE|refine OR (QH N l _ hD hl) ?_|refine AC (Qr N (dg (val l)) _ (by omega)) ?_)<;>conv=>whnf))
 exact AX rfl (by simp only[A0,true_and];exact CQ _)
theorem Agt {a b:Nat} (h:((dg a).length:Int)≠(dg b).length):C9 (dg a).length (dg b).length=C9 a b:=by
 rcases Nat.lt_trichotomy (dg a).length (dg b).length with h1|h1|h1
 ·have:=eN h1
  rw[<-IZ (by omega),<-IZ (by omega)]
 ·omega
 ·have:=eN h1
  rw[<-XM (by omega),<-XM (by omega)]
theorem YI (N:j4 L) (a b:List Nat) (q1 q2:Bool) (hA:A1 a) (hB:A1 b) (la:a.length<=1099511627776) (lb:b.length<=1099511627776):Ev L 67 [.sl q1 (a.map AL),.sl q2 (b.map AL)] (.int .i64 (C9 (val a) (val b))):=by
 have l1:=EX hA;have l2:=EX hB;have d1:=DW (val a);have d2:=DW (val b);refine Ev.x N.TZ rfl rfl ?_;(repeat' ((first|(apply AG<;>intro hc<;>try (exfalso;omega))|(apply B3;omega)|apply AR|apply AE|refine OR (QH N a _ hA la) ?_|refine OR (QH N b _ hB lb) ?_|refine AC (AiC N _ _) ?_)<;>conv=>whnf))
 ·exact CX (Agt (by omega))
 have hlen:(dg (val a)).length=(dg (val b)).length:=by omega
 have v1:=BW (val a);have v2:=BW (val b);generalize dg (val a)=X at *;generalize dg (val b)=Y at *;refine BQ (λ n=>n) (λ(n:Nat)=>n<=X.length/\X.drop n=Y.drop n) (λ n=>[(7,.int .i64 ((n:Int)-1))]) (λ_=>[]) [] [] X.length (by (conv=>whnf);exact ⟨rfl,rfl,rfl⟩) ⟨Nat.le_refl _,by rw[List.drop_of_length_le (Nat.le_refl _),List.drop_of_length_le (by omega)]⟩ ?_;intro n ⟨p1,p2⟩ ih;rcases n with _|n
 ·(repeat' ((first|(apply AG<;>intro hc<;>try (exfalso;omega))|apply AE)<;>conv=>whnf))
  rw[List.drop_zero,List.drop_zero]at p2;exact CX (aN (by rw[<-v1,<-v2,p2]))
 ·have e1:((n+1:Nat):Int)-1=n:=by omega
  rw[e1];(repeat' ((first|(apply AG<;>intro hc<;>try (exfalso;omega))|(apply B3;omega)|(refine A9 (by assumption) ?_ rfl ?_;omega)|(refine kA (by assumption) ?_ (λ e he hb => ?_);omega)|apply AE|refine AC (AiD N _ _) ?_)<;>conv=>whnf))
  ·rename_i x hx _
   rcases Nat.lt_trichotomy x e with h|h|h
   ·have:=oB d1 d2 hlen hx he p2 h
    refine CX ?_;rw[<-IZ (by omega),<-IZ (by omega)]
   ·omega
   ·have:=oB d2 d1 hlen.symm he hx p2.symm h
    refine CX ?_;rw[<-XM (by omega),<-XM (by omega)]
  ·rename_i x hx _
   refine B1 [] (by (conv=>whnf);exact ⟨rfl,rfl,rfl⟩) (ih n (by omega) ⟨by omega,?_⟩);obtain ⟨i1,e1⟩:=zS hx;obtain ⟨i2,e2⟩:=zS he;rw[List.drop_eq_getElem_cons i1,List.drop_eq_getElem_cons i2,p2,e1,e2];congr 1;omega
end Go.e8

namespace Go.e8
section
variable {U V UL VL p u0 u1 u2 v1 v2 top q r:Nat}
theorem Aku (hU:U=UL+p*(u2+4294967296*top)) (hV:V=VL+p*(v2+4294967296*v1)) (hl:UL<p) (h2:u2<4294967296) (bu:0<V):U/V*v1<=top:=by
 have h1:U/V*V<=U:=Nat.div_mul_le_self U V;generalize U/V=Q at *;have h3:U<p*(4294967296*(top+1)):=by
  have:p*(u2+4294967296*top)+p<=p*(4294967296*(top+1)):=by
   rw[<-Nat.mul_succ];exact Nat.mul_le_mul_left p (by omega)
  omega
 have h4:p*(4294967296*(Q*v1))<=Q*V:=by
  have e:Q*V=Q*VL+Q*(p*v2)+p*(4294967296*(Q*v1)):=by rw[hV];grind
  omega
 have h5:p*(4294967296*(Q*v1))<p*(4294967296*(top+1)):=by omega
 have:=Nat.lt_of_mul_lt_mul_left h5
 omega
theorem Akt (hU:U=UL+p*(u2+4294967296*top)) (hV:V=VL+p*(v2+4294967296*v1)) (hl:UL<p) (hq:q*v1+r=top) (h:r*4294967296+u2<q*v2) (bu:0<V):U/V<q:=by
 rw[Nat.div_lt_iff_lt_mul bu];have e:q*V=q*VL+p*(q*v2+4294967296*(q*v1)):=by rw[hV];grind
 have h1:p*(u2+4294967296*top)+p<=p*(q*v2+4294967296*(q*v1)):=by
  rw[<-Nat.mul_succ];exact Nat.mul_le_mul_left p (by omega)
 omega
theorem Aks (h:U<4294967296*V) (hq:4294967296<=q) (bu:0<V):U/V<q:=by
 have:U/V<4294967296:=(Nat.div_lt_iff_lt_mul bu).2 h
 omega
theorem Uu (hU:U=UL+p*(u2+4294967296*top)) (hV:V=VL+p*(v2+4294967296*v1)) (Cs:VL<p) (h1:2147483648<=v1) (hq:q*v1+r=top) (h:q*v2<=r*4294967296+u2) (hqB:q<4294967296):q<=U/V+1:=by
 have bu:0<V:=by
  have:p*4294967296<=p*(v2+4294967296*v1):=Nat.mul_le_mul_left p (by omega)
  omega
 by_cases h0:q=0
 ·subst h0;exact Nat.zero_le _
 have e:q*V=q*VL+p*(q*v2+4294967296*(q*v1)):=by rw[hV];grind
 have h2:p*(q*v2+4294967296*(q*v1))<=p*(u2+4294967296*top):=Nat.mul_le_mul_left p (by omega);have h3:q*VL<V:=by
  have a1:q*VL<=4294967296*VL:=Nat.mul_le_mul_right _ (by omega);have a2:p*4294967296<=p*(v2+4294967296*v1):=Nat.mul_le_mul_left p (by omega);omega
 have h4:(q-1)*V<U+1:=by
  have:(q-1)*V+V=q*V:=by
   have:q=q-1+1:=by omega
   rw[<-Nat.succ_mul,Nat.succ_eq_add_one,<-this]
  omega
 have h5:q-1<=U/V:=(Nat.le_div_iff_mul_le bu).2 (by omega);omega
end
theorem zY {U V U' q:Nat} (bu:0<V) (h1:U/V<=q) (h:U'+q*V=U):q=U/V/\U'=U%V:=by
 have h2:q*V<=U:=by omega
 have h3:q<=U/V:=(Nat.le_div_iff_mul_le bu).2 h2;have h4:q=U/V:=by omega
 have:=Nat.div_add_mod U V
 rw[Nat.mul_comm,<-h4]at this;exact ⟨h4,by omega⟩
theorem zX {U V U' q P:Nat} (bu:0<V) (h2:q<=U/V+1) (Eo:U'<P) (h:U'+q*V=U+P):q-1=U/V/\1<=q/\U'+V=U%V+P:=by
 have h3:U/V*V<=U:=Nat.div_mul_le_self U V;have h4:U/V<q:=by
  rcases Nat.lt_or_ge (U/V) q with h|h
  ·exact h
  ·have:q*V<=U/V*V:=Nat.mul_le_mul_right _ h
   omega
 have h6:=Nat.div_add_mod U V;rw[Nat.mul_comm]at h6;generalize U/V=Q at *;generalize U%V=R at *;obtain rfl:q=Q+1:=by omega
 rw[Nat.add_mul,Nat.one_mul]at h;exact ⟨by omega,by omega,by omega⟩
theorem nV {u pl bw:Nat} (hu:u<4294967296) (hp:pl<4294967296) (hb:bw<=1):EO (EO u pl) bw%4294967296+pl+bw=u+4294967296*(EO (EO u pl) bw/9223372036854775808)/\EO (EO u pl) bw/9223372036854775808<=1:=by
 rw[bU,bU];omega
theorem Anw {d e bw:Nat} (hu:d<4294967296) (hp:e<4294967296) (hb:bw<=1):EO (EO d bw) e%4294967296+e+bw=d+4294967296*(EO (EO d bw) e/9223372036854775808)/\EO (EO d bw) e/9223372036854775808<=1:=by
 rw[bU,bU];omega
theorem Anv {d bw:Nat} (hu:d<4294967296) (hb:bw<=1):EO d bw%4294967296+bw=d+4294967296*(EO d bw/9223372036854775808)/\EO d bw/9223372036854775808<=1:=by
 rw[bU];omega
theorem Ye {V Y X p D e bw ea d:Nat} (h:V+Y=X+p*bw) (hd:D+e+bw=d+4294967296*ea):V+p*D+(Y+p*e)=X+p*d+p*4294967296*ea:=by
 have h2:p*D+p*e+p*bw=p*d+p*4294967296*ea:=by
  rw[<-Nat.mul_add,<-Nat.mul_add,hd,Nat.mul_add,Nat.mul_assoc]
 omega
theorem dT {a b:Nat} (ha:a<4294967296) (hb:b<4294967296):a*b<=18446744065119617025 :=
 Nat.mul_le_mul (show a<=4294967295 by omega) (show b<=4294967295 by omega)
theorem Ro {X Y s:Nat} (hs:0<s):X*s/(Y*s)=X/Y/\X*s%(Y*s)/s=X%Y:=by
 refine ⟨Nat.mul_div_mul_right X Y hs,?_⟩;rw[Nat.mul_mod_mul_right,Nat.mul_div_cancel _ hs]
end Go.e8
