/-
  The walk by computation is sound: calls, regions, code, loops, functions.
-/
import Derived.Test.YtfnglkabkfmjcaaGreatB6
import Derived.Calls
import Derived.Test.YtfnglkabkfmjcaaGreatB3
set_option linter.unusedSimpArgs false
set_option linter.unusedVariables false
set_option linter.unnecessarySimpa false
namespace Go.c5
section
variable {σ:FH} {tm:Tm} {M:Mem} {st:St} {L:Lib} {b9:List Nat}
theorem qY {own:AH} {q:Bool} {d:Nat} : ∀ {e:List AV},FJ e=true->e.mapM (snap own q d)=some e
 | [],_=>rfl
 | v::r,h=>by
  have hv:snap own q d v=some v/\FJ r=true:=by
   cases v<;>simp only[FJ]at h<;>first|cases h|exact ⟨by cases d<;>rfl,h⟩
  rw[List.mapM_cons,hv.1,qY hv.2];rfl
theorem rB {own:AH} {q:Bool} {d:Nat} : ∀ {e:List AV},LZ e=true->e.mapM (snap own q d)=some (e.map nl)
 | [],_=>rfl
 | v::r,h=>by
  have hv:snap own q d v=some (nl v)/\LZ r=true:=by
   cases v<;>simp only[LZ]at h<;>first|cases h|exact ⟨by cases d<;>rfl,h⟩
  rw[List.mapM_cons,hv.1,rB hv.2];rfl
theorem qZ {own:AH} {q:Bool} {d:Nat} : ∀ {es:List (List AV)},(∀ e∈es,LZ e=true)->es.mapM (λ cs:List AV=>cs.mapM (snap own q d))=some (es.map λ e=>e.map nl)
 | [],_=>rfl
 | e::r,h=>by
  rw[List.mapM_cons,rB (h e List.mem_cons_self),qZ λ x hx=>h x (List.mem_cons_of_mem _ hx)];rfl
theorem qX {own:AH} {q:Bool} {d:Nat} : ∀ {es:List (List AV)},(∀ e∈es,FJ e=true)->es.mapM (λ cs:List AV=>cs.mapM (snap own q d))=some es
 | [],_=>rfl
 | e::r,h=>by
  rw[List.mapM_cons,qY (h e List.mem_cons_self),qX λ x hx=>h x (List.mem_cons_of_mem _ hx)];rfl
theorem tQ (hs:JU σ st.own M) {q:Bool} {v:AV} {K:AV->Prop} (h:R8 q M b9 v K) : ∃ v',(∀ d,snap (st.own.m4 b9) q (d+1) (BA σ v)=some v')/\K v'/\v ≠ .any/\BV σ v=BA σ v:=by
 cases v with
 | row key t z off len =>
  have fin : ∀ (z':Nat) (es:List (List AV)),((st.own.m4 b9) (σ key t).1).e8 (σ key t).2=some ⟨z',es⟩->z=z'->A2 es off len (λ es=>K (.sl q es)) -> ∃ v',(∀ d,snap (st.own.m4 b9) q (d+1) (BA σ (.row key t z off len))=some v')/\K v'/\AV.row key t z off len ≠ .any/\BV σ (.row key t z off len)=BA σ (.row key t z off len):=by
   intro z' es hb hz h;subst hz;obtain ⟨h1,h2,h3⟩:=h;refine ⟨_,λ d => ?_,h3,(by intro e;cases e),rfl⟩;simp only[BA,snap,EA,AH.get,hb];rw[if_pos ⟨h1,trivial⟩];simp only;rw[qZ λ e he=>h2 e (List.mem_of_mem_drop (List.mem_of_mem_take he))];rfl
  simp only[R8]at h;split at h
  ·rename_i s z' es hm
   split at h
   ·cases hz:Nat.beq z z'<;>simp only[hz,cond_true,cond_false]at h
    cases hb:QQ s b9<;>simp only[hb,cond_true,cond_false]at h;refine fin z' es ?_ (BK.1 hz) h;have v7:=hs.e8 _ _ _ (DJ hm);rw[hs.site _ _ _ hm]at v7 ⊢;rw[TV hb];exact v7
   ·exact h.elim
  ·rename_i s rows hm
   split at h
   ·exact h.elim
   ·rename_i i
    split at h
    ·obtain ⟨z',es,g,h⟩:=h
     cases hz:Nat.beq z z'<;>simp only[hz,cond_true,cond_false]at h;exact fin z' es (hs.e8 key (i+1) (.rw z' es) (by simp [b8,hm,g])) (BK.1 hz) h
    ·rename_i b r
     cases hb:RU (b::r)<;>simp only[hb,cond_true,cond_false]at h;obtain ⟨z',es,g,h⟩:=h;cases hz:Nat.beq z z'<;>simp only[hz,cond_true,cond_false]at h;have g':b8 M key (i+1)=some (.rw z' es):=by simp [b8,hm,g]
     refine fin z' es ?_ (BK.1 hz) h;rw[eK (hs.low _ _ _ g' rfl) hb];exact hs.e8 key (i+1) (.rw z' es) g'
  ·exact h.elim
 | int k n=>exact ⟨_,λ d=>rfl,h,(by intro e;cases e),rfl⟩
 | bool b=>exact ⟨_,λ d=>rfl,h,(by intro e;cases e),rfl⟩
 | sl l es=>exact ⟨_,λ d=>rfl,h,(by intro e;cases e),rfl⟩
 | cj c=>exact ⟨_,λ d=>rfl,h,(by intro e;cases e),rfl⟩
 | nil=>exact ⟨_,λ d=>rfl,h,(by intro e;cases e),rfl⟩
 | _=>exact (h:False).elim
theorem tP (hs:JU σ st.own M) {q:Bool} : ∀ {l:List AV} {K:List AV->Prop},ZR q M b9 l K -> ∃ l',(∀ d,(l.map (BA σ)).mapM (snap (st.own.m4 b9) q (d+1))=some l')/\K l'
 | [],K,h=>⟨[],λ d=>rfl,h⟩
 | v::r,K,h=>by
  obtain ⟨v',h1,h2,_⟩:=tQ hs (show R8 q M b9 v λ v'=>ZR q M b9 r λ r'=>K (v'::r') from h);obtain ⟨l',h3,h4⟩:=tP hs h2;refine ⟨v'::l',λ d => ?_,h4⟩;rw[List.map_cons,List.mapM_cons,h1 d,h3 d];rfl
theorem tO (hs:JU σ st.own M) {q:Bool} : ∀ {l:List (List AV)} {K:List (List AV)->Prop},gO q M b9 l K -> ∃ l',(∀ d,(l.map λ cs=>cs.map (BA σ)).mapM (λ cs:List AV=>cs.mapM (snap (st.own.m4 b9) q (d+1)))=some l')/\K l'
 | [],K,h=>⟨[],λ d=>rfl,h⟩
 | v::r,K,h=>by
  obtain ⟨v',h1,h2⟩:=tP hs (show ZR q M b9 v λ v'=>gO q M b9 r λ r'=>K (v'::r') from h);obtain ⟨l',h3,h4⟩:=tO hs h2;refine ⟨v'::l',λ d => ?_,h4⟩;rw[List.map_cons,List.mapM_cons,h1 d,h3 d];rfl
theorem fX {own:AH} {q:Bool} {d:Nat} {k:Nat} : ∀ {rows:List (Option (Nat × List (List AV)))} {i:Nat},(∀ j z es,rows[j]? = some (some (z,es))->(own (σ k (i+j+1)).1).e8 (σ k (i+j+1)).2=some ⟨z,es⟩ /\ ∀ e∈es,FJ e=true) ->
  (B5 σ k i rows).mapM (λ cs:List AV=>cs.mapM (snap own q (d+1)))=some (QU q rows)
 | [],i,h=>rfl
 | none::r,i,h=>by
  rw[B5,List.mapM_cons,fX (i:=i+1) λ j z es hj=>by
   have:=h (j+1) z es (by simpa using hj)
   rwa [show i+(j+1)+1=i+1+j+1 by omega]at this]
  rfl
 | some (z,es)::r,i,h=>by
  rw[B5,List.mapM_cons,fX (i:=i+1) λ j z es hj=>by
   have:=h (j+1) z es (by simpa using hj)
   rwa [show i+(j+1)+1=i+1+j+1 by omega]at this]
  obtain ⟨h1,h2⟩:=h 0 z es rfl;have:snap own q (d+1) (.row (σ k (i+1)).1 (σ k (i+1)).2 z 0 es.length)=some (.sl q es):=by
   simp only[snap,EA,AH.get];rw[show (own (σ k (i+1)).1).e8 (σ k (i+1)).2=some ⟨z,es⟩ from h1];simp only[Nat.zero_add,Nat.le_refl,and_self,if_true,List.drop_zero];rw[List.take_of_length_le (Nat.le_refl _),qX h2];rfl
  rw[List.mapM_cons,this];rfl
theorem tN (hs:JU σ st.own M) {q:Bool} {v:AV} {K:AV->Prop} (h:WK q M b9 v K) : ∃ v',snap (st.own.m4 b9) q 6 (BA σ v)=some v'/\K v'/\v ≠ .any/\BV σ v=BA σ v/\C7 (st.own.m4 b9) q (BA σ v)=some v':=by
 have tc:R8 q M b9 v K -> ∃ v',snap (st.own.m4 b9) q 6 (BA σ v)=some v'/\K v'/\v ≠ .any/\BV σ v=BA σ v/\C7 (st.own.m4 b9) q (BA σ v)=some v':=by
  intro h;obtain ⟨v',h1,h2,h3,h4⟩:=tQ hs h;refine ⟨v',h1 5,h2,h3,h4,?_⟩;have:=h1 5
  cases v<;>first|exact this|exact (h:False).elim
 unfold WK at h;split at h
 ·rename_i key z off len
  split at h
  ·rename_i s z' es hm
   cases hz:Nat.beq z z'<;>simp only[hz,cond_true,cond_false]at h;cases hb:QQ s b9<;>simp only[hb,cond_true,cond_false]at h;cases ho:Nat.beq off 0<;>simp only[ho,cond_true,cond_false]at h;obtain rfl:=BK.1 hz;obtain rfl:=BK.1 ho;obtain ⟨rfl,h⟩:=h;obtain ⟨l',h1,h2⟩:=tO hs h;have v7:=hs.e8 _ _ _ (DJ hm);rw[hs.site _ _ _ hm]at v7;have key:snap (st.own.m4 b9) q 6 (BA σ (.row key 0 z 0 es.length))=some (.sl q l'):=by
    simp only[BA,snap,EA,AH.get,hs.site _ _ _ hm];rw[TV hb,v7];simp only[A7.e8,Nat.zero_add,List.length_map,Nat.le_refl,and_self,if_true,List.drop_zero];rw[List.take_of_length_le (by simp),h1 4];rfl
   exact ⟨_,key,h2,(by intro e;cases e),rfl,key⟩
  ·rename_i s rows hm
   split at h
   ·cases hz:Nat.beq z 1<;>simp only[hz,cond_true,cond_false]at h
    obtain rfl:=BK.1 hz;obtain ⟨rfl,rfl,h1,h2⟩:=h;have v7:=hs.e8 _ _ _ (DJ hm);have key:snap (st.own.m4 []) q 6 (BA σ (.row key 0 1 0 rows.length))=some (.sl q (QU q rows)):=by
     simp only[BA,snap,EA,AH.get,AH.m4];rw[v7];simp only[A7.e8,Nat.zero_add,E4,Nat.le_refl,and_self,if_true,List.drop_zero];rw[List.take_of_length_le (by rw[E4];exact Nat.le_refl _),fX (i:=0) λ j z es hj=>⟨by
      have:=hs.e8 key (j+1) (.rw z es) (by simp [b8,hm,hj])
      simpa [A7.e8] using this,h1 z es (zM hj)⟩]
     rfl
    exact ⟨_,key,h2,(by intro e;cases e),rfl,key⟩
   ·exact h.elim
  ·exact tc h
 ·exact tc h
theorem tR (hs:JU σ st.own M) {q:Bool} : ∀ {l:List AV} {K:List AV->Prop},gP q M b9 l K -> ∃ l',(l.map (BA σ)).mapM (snap (st.own.m4 b9) q 6)=some l'/\K l'
 | [],K,h=>⟨[],rfl,h⟩
 | v::r,K,h=>by
  obtain ⟨v',h1,h2,_⟩:=tN hs (show WK q M b9 v λ v'=>gP q M b9 r λ r'=>K (v'::r') from h);obtain ⟨l',h3,h4⟩:=tR hs h2;refine ⟨v'::l',?_,h4⟩;rw[List.map_cons,List.mapM_cons,h1,h3];rfl
theorem ZQ (hs:JU σ st.own M) {q:Bool} {v:AV} {K:AV->Prop} (h:PW q M b9 v K) : ∃ v',C7 (st.own.m4 b9) q (BH σ v)=some v'/\K v'/\v ≠ .any/\BH σ v=BV σ v:=by
 cases v with
 | agg cs =>
  simp only[PW]at h;obtain ⟨l',h1,h2⟩:=tR hs h;refine ⟨.agg l',?_,h2,(by intro e;cases e),rfl⟩;simp only[G2,C7,h1,Option.map_some]
 | g7 vs=>exact (h:False).elim
 | fn p f g cs=>exact (h:False).elim
 | any=>exact (h:False).elim
 | _ =>
  simp only[PW]at h;obtain ⟨v',h1,h2,h3,h4,h5⟩:=tN hs h;exact ⟨v',h5,h2,h3,rfl⟩
theorem ZT (hr:RX σ tm M st) : ∀ {xs:List AP} {K:List AV->Prop},WL tm M b9 xs K -> ∃ vs,(xs.map st.ev).mapM (C7 (st.own.m4 b9) true)=some vs/\K vs
 | [],K,h=>⟨[],rfl,h⟩
 | x::r,K,h=>by
  obtain ⟨v',h1,h2,h3,_⟩:=ZQ hr.sat (show PW true M b9 (ex tm x) λ v=>WL tm M b9 r λ vs=>K (v::vs) from h);obtain ⟨l',h4,h5⟩:=ZT hr h2;refine ⟨v'::l',?_,h5⟩;rw[List.map_cons,List.mapM_cons,hr.ev rfl h3,h1,h4];rfl
theorem Agu (hs:JU σ st.own M) {v:AV} {K:AV->Prop} (h:ZS M b9 v K) : ∃ v',OZ (st.own.m4 b9) true (BH σ v)=some v'/\K v'/\v ≠ .any/\BH σ v=BV σ v:=by
 cases v with
 | nil=>exact ⟨.nil,rfl,h,(by intro e;cases e),rfl⟩
 | _ =>
  simp only[ZS]at h;obtain ⟨v',h1,h2,h3,h4⟩:=ZQ hs h;exact ⟨v',h1,h2,h3,h4⟩
theorem tS (hr:RX σ tm M st) : ∀ {xs:List AP} {K:List AV->Prop},gQ tm M b9 xs K -> ∃ vs,(xs.map st.ev).mapM (OZ (st.own.m4 b9) true)=some vs/\K vs
 | [],K,h=>⟨[],rfl,h⟩
 | x::r,K,h=>by
  obtain ⟨v',h1,h2,h3,_⟩:=Agu hr.sat (show ZS M b9 (ex tm x) λ v=>gQ tm M b9 r λ vs=>K (v::vs) from h);obtain ⟨l',h4,h5⟩:=tS hr h2;refine ⟨v'::l',?_,h5⟩;rw[List.map_cons,List.mapM_cons,hr.ev rfl h3,h1,h4];rfl
theorem VH (hr:RX σ tm M st) : ∀ {xs:List AP} {K:List AV->Prop},TG tm xs K -> ∃ vs,xs.map st.ev=vs.map (BH σ)/\K vs
 | [],K,h=>⟨[],rfl,h⟩
 | x::r,K,h=>by
  obtain ⟨h1,h2⟩:=YM (show fV (ex tm x) λ v=>TG tm r λ vs=>K (v::vs) from h);obtain ⟨vs,h3,h4⟩:=VH hr h2;exact ⟨ex tm x::vs,by rw[List.map_cons,List.map_cons,hr.ev rfl h1,h3],h4⟩
theorem kJ {v:AV} (h:A4 v):BA σ v=v:=by
 cases v<;>first|rfl|(simp only[A4]at h)
theorem kH : ∀ {l:List AV},CW l->l.map (BA σ)=l
 | [],_=>rfl
 | v::r,h=>by
  simp only[CW]at h;rw[List.map_cons,kJ h.1,kH h.2]
theorem kK {v:AV} (h:A4 v):BV σ v=v:=by
 cases v with
 | agg cs=>simp only[A4]at h;simp only[BV,kH h]
 | fn p f g cs=>simp only[A4]at h
 | _=>exact kJ (σ:=σ) h
theorem kI : ∀ {l:List AV},CW l->l.map (BV σ)=l
 | [],_=>rfl
 | v::r,h=>by
  simp only[CW]at h;rw[List.map_cons,kK h.1,kI h.2]
theorem bC {v:AV} (h:A4 v):BH σ v=v:=by
 cases v with
 | g7 cs=>simp only[A4]at h;simp only[BH,kI h]
 | _=>exact kK (σ:=σ) h
theorem rX {I:List AV->Option (AV × AH)} {vs:List AV} {r:AV} (h:H7 I vs=some r):A4 r:=by
 unfold H7 at h;split at h
 ·split at h
  ·split at h
   ·obtain rfl:=Option.some.inj h
    assumption
   ·cases h
  ·cases h
 ·cases h
theorem Ev.clean {f:Nat} {vs:List AV} {r:AV} (h:Ev L f vs r):A4 r:=by
 obtain ⟨n,h⟩:=h;unfold GX J8 at h;split at h
 ·split at h
  ·rename_i r1 r2 h1 h2
   split at h
   ·obtain rfl:=Option.some.inj h
    exact rX h1
   ·cases h
  ·cases h
 ·exact rX h
theorem RX.put (h:RX σ tm M st) (d:Nat) {v v':AV} (e:v'=BH σ v):RX σ ((d,v)::tm) M ⟨je st.tm d v',st.own⟩:=by
 refine ⟨λ j => ?_,h.sat⟩;simp only[tg,WT];cases hb:Nat.beq j d
 ·rw[if_neg (FD.1 hb)];exact h.tm j
 ·rw[if_pos (BK.1 hb)];exact Or.inr e
theorem rC : ∀ {cs:List AV},V3 cs=true->cs.map (BH σ)=cs.map (BA σ)
 | [],_=>rfl
 | v::r,h=>by
  simp only[V3]at h;cases hv:eN v<;>simp only[hv,cond_true,cond_false]at h
  ·cases h
  ·rw[List.map_cons,List.map_cons,rC h]
   cases v<;>first|rfl|(simp [eN]at hv)
theorem Vh {v:AV} (h:GI v=true):BA σ v=v:=by cases v<;>first|rfl|(simp [GI]at h)
theorem mH : ∀ {cs:List AV},cs.all GI=true->cs.map (BA σ)=cs
 | [],_=>rfl
 | c::r,h=>by
  simp only[List.all_cons,Bool.and_eq_true]at h;rw[List.map_cons,Vh h.1,mH h.2]
theorem mI : ∀ {vs:List AV},vs.all dq=true->vs.map (BH σ)=vs
 | [],_=>rfl
 | v::r,h=>by
  simp only[List.all_cons,Bool.and_eq_true]at h;rw[List.map_cons,mI h.2];congr 1;cases v with
  | agg cs=>simp only[BH,BV,mH (show cs.all GI=true from h.1)]
  | _=>first|rfl|(simp [dq,GI]at h)
theorem AeU {r:AV} (hc:A4 r) (hf:JS r):BH σ (xv r)=xv r:=by
 cases r with
 | agg cs =>
  simp only[xv,BH,BV];congr 1;rw[List.map_map];refine List.map_congr_left λ c mc => ?_
  have:=hf c mc
  cases c<;>first|rfl|exact this.elim
 | _=>first|rfl|exact hf.elim
theorem AeR {c:AV} (h:A4 c):BA σ (HC c)=HC c:=by
 cases c<;>first|(simp only[HC,BA];done)|(simp only[A4]at h;done)
theorem AeS {r:AV} (h:A4 r) (hd:SJ r):BH σ (OS r)=OS r:=by
 cases r with
 | agg cs =>
  simp only[A4]at h;have : ∀ cs:List AV,CW cs->(K6 cs).map (BA σ)=K6 cs:=by
   intro cs;induction cs with
   | nil=>intro _;simp [K6]
   | cons c l ih =>
    intro h;simp only[CW]at h;rw[K6,List.map_cons,ih h.2,AeR h.1]
  simp only[OS,BH,BV,this cs h]
 | g7=>exact hd.elim
 | fn=>exact hd.elim
 | _=>first|(simp only[OS,HC,BH,BV,BA];done)|(simp only[A4]at h;done)
theorem AeT {r:AV} (h:A4 r) (hd:JS r\/SJ r):BH σ (K7 r)=K7 r:=by
 by_cases hf:JS r
 ·rw[dO hf];exact AeU h hf
 ·rw[qB hf];exact AeS h (hd.resolve_left hf)
theorem pF : ∀ {l:List AV},YQ l=true->l.map (BH σ)=l
 | [],_=>rfl
 | .int _ _::r,h=>by
  rw[List.map_cons,pF (l:=r) h];rfl
theorem yK {K:AV->Mem->Prop} (hr:RX σ tm M st) {op:DY} (h:XE L tm M b9 K op):BM L tm b9 K op st\/(∃ f xs,op = .call f xs)\/(∃ f xs,op = .e9 f xs)\/(∃ x xs,op = .m9 x xs)\/(∃ f xs,op = .l9 f xs)\/(∃ s f xs,op = .o9 s f xs) \/ ∃ s f xs,op = .bg s f xs:=by
 cases op with
 | call f xs=>exact Or.inr (Or.inl ⟨_,_,rfl⟩)
 | e9 f xs=>exact Or.inr (Or.inr (Or.inl ⟨_,_,rfl⟩))
 | m9 x xs=>exact Or.inr (Or.inr (Or.inr (Or.inl ⟨_,_,rfl⟩)))
 | l9 f xs=>exact Or.inr (Or.inr (Or.inr (Or.inr (Or.inl ⟨_,_,rfl⟩))))
 | o9 s f xs=>exact Or.inr (Or.inr (Or.inr (Or.inr (Or.inr (Or.inl ⟨_,_,_,rfl⟩)))))
 | bg s f xs=>exact Or.inr (Or.inr (Or.inr (Or.inr (Or.inr (Or.inr ⟨_,_,_,rfl⟩)))))
 | na s n x v=>exact Or.inl (zA hr h)
 | dj s z b x y=>exact Or.inl (xX hr h)
 | rh ne x=>exact Or.inl (yN hr h)
 | bad=>exact (show False from h).elim
 | su x=>exact Or.inl (yW hr h)
 | er x=>exact Or.inl (yE hr h)
 | nb s z b x y=>exact Or.inl (xY hr h)
 | nw s z b x y=>exact Or.inl (xT hr h)
 | fy tb x=>exact Or.inl (yY hr h)
 | pd p f xs=>exact Or.inl (yT hr h)
 | qg f x=>exact Or.inl (yS hr h)
 | b7 x=>exact Or.inl (yV hr h)
 | s9 s z=>exact Or.inl (zC hr h)
 | pick c a b=>exact Or.inl (yX hr h)
 | bin o x y=>exact Or.inl (yA hr h)
 | beq ne x y=>exact Or.inl (xZ hr h)
 | qh ne n x y=>exact Or.inl (xR hr h)
 | un o x=>exact Or.inl (zB hr h)
 | conv k x=>exact Or.inl (yF hr h)
 | box s x=>exact Or.inl (yB hr h)
 | alloc s z=>exact Or.inl (xS hr h)
 | build z ps=>exact Or.inl (yD hr h)
 | c7 s z ps=>exact Or.inl (yC hr h)
 | a6 x o=>exact Or.inl (yI hr h)
 | nc x o n a=>exact Or.inl (yJ hr h)
 | a5 a z x i=>exact Or.inl (yL hr h)
 | idx l z a x i=>exact Or.inl (yM hr h)
 | ld a n x=>exact Or.inl (yO hr h)
 | sn a n x=>exact Or.inl (yP hr h)
 | st n x v=>exact Or.inl (jF hr h)
 | mk s z b ze l c=>exact Or.inl (yR hr h)
 | fg z x lo hi=>exact Or.inl (yZ hr h)
 | ext x i=>exact Or.inl (yH hr h)
 | len x=>exact Or.inl (yQ hr h)
 | mm m xs=>exact Or.inl (yU hr h)
 | app s z b x y=>exact Or.inl (xU hr h)
 | oa z x y=>exact Or.inl (yG hr h)
theorem aJ {K:AV->Mem->Prop} (hr:RX σ tm M st) {op:DY} {d:Option Nat} {g:Option (Nat × Bool)} {l:List AI} {k:List It} {Q:St->Prop} (h:XE L tm M b9 K op) (hg:FE st g=some true)
  (hk : ∀ σ' v v' M' l8,K v M'->v'=BH σ' v->RX σ' tm M' ⟨st.tm,l8⟩->AO L l k ⟨((⟨st.tm,l8⟩:St).dst d v').tm,l8⟩ Q):AO L (⟨d,op,g,b9⟩::l) k st Q:=by
 rcases yK hr h with ⟨E,σ',v,M',h1,h2,h3,h4⟩|⟨f,xs,rfl⟩|⟨f,xs,rfl⟩|⟨x,xs,rfl⟩|⟨f,xs,rfl⟩|⟨s,f,xs,rfl⟩|⟨s,f,xs,rfl⟩
 ·rw[wK hg h1,aN]
  have:=hk σ' v _ M' _ h2 h3 h4
  cases d<;>exact this
 ·simp only[XE]at h
  obtain ⟨vs,h1,r,h2,h3⟩:=ZT hr h;rw[wA hg h1 h2];have:=hk σ r r M st.own h3 (bC h2.clean).symm hr
  cases d<;>exact this
 ·simp only[XE]at h
  obtain ⟨vs,h1,h2⟩:=VH hr h;obtain ⟨r,l8,σ',M',h3,h4,h5,h6⟩:=h2 σ st.own hr.sat;rw[<-h1]at h3;rw[wC hg h3];have:=hk σ' r _ M' l8 h6 rfl ⟨λ j=>by rw[h5 j];exact hr.tm j,h4⟩
  cases d<;>exact this
 ·simp only[XE]at h
  split at h
  ·rename_i f g' e1
   obtain ⟨h0,h⟩:=h;obtain ⟨vs,h1,r,h2,h3⟩:=ZT hr h;have e2:=hr.ev e1 (by intro e;cases e);rw[WH,List.map_nil,h0]at e2;rw[wD hg e2 h1 h2];have:=hk σ r r M st.own h3 (bC h2.clean).symm hr
   cases d<;>exact this
  ·rename_i f g' c cs e1
   obtain ⟨h0,h⟩:=h;obtain ⟨v',h1,h,_,_⟩:=ZQ hr.sat h;obtain ⟨vs,h2,r,h3,h4⟩:=ZT hr h;have e2:=hr.ev e1 (by intro e;cases e);rw[WH,h0]at e2;have h5:(AV.agg (c::cs |>.map (BA σ))::xs.map st.ev).mapM (C7 st.own true)=some (v'::vs):=by
    rw[List.mapM_cons,show C7 st.own true (AV.agg (c::cs |>.map (BA σ)))=some v' from h1,show (xs.map st.ev).mapM (C7 st.own true)=some vs from h2];rfl
   rw[wB hg e2 h5 h3];have:=hk σ r r M st.own h4 (bC h3.clean).symm hr
   cases d<;>exact this
  ·rename_i f g' cs e1
   cases ho:V3 cs<;>simp only[ho,cond_true,cond_false]at h;obtain ⟨h0,h⟩:=h;obtain ⟨vs,h1,h2⟩:=VH hr h;rw[GJ]at h2;obtain ⟨r,l8,σ',M',h3,h4,h5,h6⟩:=h2 σ st.own hr.sat;rw[List.map_append,<-h1,rC (σ:=σ) ho]at h3;have e2:=hr.ev e1 (by intro e;cases e);rw[WH,h0]at e2;rw[wG hg e2 h3];have:=hk σ' r _ M' l8 h6 rfl ⟨λ j=>by rw[h5 j];exact hr.tm j,h4⟩
   cases d<;>exact this
  ·exact h.elim
 ·simp only[XE]at h
  obtain ⟨vs,h1,h2⟩:=VH hr h;cases ho:vs.all dq<;>simp only[ho,cond_true,cond_false]at h2;obtain ⟨r,h3,h4,h5⟩:=h2;have e1:xs.map st.ev=vs:=by rw[h1];exact mI ho
  rw[wE hg (by rw[e1];exact ho) (by rw[e1];exact h3) h4];have:=hk σ (K7 r) (K7 r) M st.own h5 (AeT h3.clean h4).symm hr
  cases d<;>exact this
 ·simp only[XE]at h
  cases Fb:EN s<;>simp only[Fb,cond_true,cond_false]at h;obtain ⟨vs,h1,z,es,n,h2,rfl,h3⟩:=tS hr h;obtain ⟨k',g1,g2,g3⟩:=GH h3;refine wF hg h1 h2 ?_;rw[aN];have:=hk (C4 σ k' λ_=>(s,st.own.g9 s)) _ (.row s (st.own.g9 s) z 0 es.length) _ _ g3 (by simp only[C6,BX]) (hr.db (q:=s) g1 g2 (.rw z es) trivial rfl (λ_=>Fb))
  cases d<;>exact this
 ·simp only[XE]at h
  obtain ⟨vs,h1,h2⟩:=VH hr h;split at h2
  ·rename_i key rest
   cases hi:YQ rest<;>simp only[hi,cond_true,cond_false]at h2;obtain ⟨cells,fo,kd,n,g1,g2,g3,g4,g5⟩:=h2;have ff:=hr.sat.site _ _ _ g1;have v7:=hr.sat.e8 _ _ _ (DJ g1);rw[ff]at v7;simp only[A7.e8,H1 g2]at v7;have w7:xs.map st.ev = .ptr s (σ key 0).2 0 0::rest:=by
    rw[h1,List.map_cons,EB,ff,pF hi]
   have hE:=g4 (σ key 0).2 (st.own s) v7;refine wH hg (by rw[w7];exact hE) ?_;rw[aN];have:=hk σ (.int kd n) (.int kd n) _ _ g5 rfl (hr.Ib g1 trivial (.bx fo) trivial (λ h=>by cases h))
   simp only[A7.e8,H1 g3]at this;cases d<;>exact this
  ·exact h2.elim
theorem Zr (hr:RX σ tm M st) {g:Nat} {w:Bool} {b:Bool} (e:tg tm g = .bool b):FE st (some (g,w))=some (b == w):=by
 rcases hr.tm g with h|h
 ·rw[e]at h;cases h
 ·rw[e]at h
  simp only[FE,h,GP]
theorem Zs (hr:RX σ tm M st) {g:Nat} {w:Bool} (e:tg tm g = .g7 []):FE st (some (g,w))=some false:=by
 rcases hr.tm g with h|h
 ·rw[e]at h;cases h
 ·rw[e]at h
  simp only[FE,h,HT,List.map_nil]
theorem iA {key:Nat} : ∀ (tm:Tm) (j:Nat),tg (Db key tm) j = .any\/tg (Db key tm) j=tg tm j
 | [],_=>Or.inl rfl
 | (i,v)::r,j=>by
  simp only[Db];cases hc:P7 key v<;>cases hb:Nat.beq j i;all_goals simp only[cond_true,cond_false,tg,hb]
  ·exact iA r j
  ·exact Or.inr trivial
  ·exact iA r j
  ·exact Or.inl trivial
theorem Ahg {v:AV} {K:Tm->Prop} (h:xk v tm K) : ∃ z9,(∀ j,tg z9 j = .any\/tg z9 j=tg tm j)/\K z9:=by
 unfold xk at h;split at h
 ·rw[TI]at h
  exact ⟨_,λ j=>iA _ j,h⟩
 ·exact ⟨_,λ j=>Or.inr rfl,h⟩
theorem jG {k:List It} {Q:Tm->Mem->Prop} : ∀ {l:List AI} {K:Tm->Mem->Prop} {tm:Tm} {M:Mem},XO L l K tm M->(∀ z9 M',K z9 M'->AA L k z9 M' Q)->iL L l k tm M Q
 | [],K,tm,M,h,hk=>λ σ st hr=>wI.2 (hk tm M h σ st hr)
 | o::l,K,tm,M,h,hk=>by
  intro σ st hr;have h:XI L o (XO L l) K tm M:=h;have ih : ∀ z9 M',XO L l K z9 M'->iL L l k z9 M' Q:=λ z9 M' h'=>jG h' hk
  have some_ : ∀ (d:Nat) (op:DY) (g:Option (Nat × Bool)) (b9:List Nat),FE st g=some true->XE L tm M b9 (λ v M=>XO L l K ((d,v)::tm) M) op->AO L (⟨some d,op,g,b9⟩::l) k st (SQ Q):=by
   intro d op g b9 hg hx;refine aJ hr hx hg ?_;intro σ' v v' M' l8 h1 h2 h3;exact ih _ _ h1 σ' _ (h3.put d h2)
  have Ca : ∀ (d:Nat) (u:AV) (op:DY) (b9:List Nat),XE L tm M b9 (λ v M=>xk u tm λ tm=>XO L l K ((d,v)::tm) M) op->AO L (⟨some d,op,none,b9⟩::l) k st (SQ Q):=by
   intro d u op b9 hx;refine aJ hr hx rfl ?_;intro σ' v v' M' l8 h1 h2 h3;obtain ⟨z9,g1,g2⟩:=Ahg h1;exact ih _ _ g2 σ' _ ((show RX σ' z9 M' ⟨st.tm,l8⟩ from ⟨λ j=>(g1 j).elim Or.inl λ e=>by rw[e];exact h3.tm j,h3.sat⟩).put d h2)
  have none_ : ∀ (op:DY) (g:Option (Nat × Bool)) (b9:List Nat),FE st g=some true->XE L tm M b9 (λ_ M=>XO L l K tm M) op->AO L (⟨none,op,g,b9⟩::l) k st (SQ Q):=by
   intro op g b9 hg hx;refine aJ hr hx hg ?_;intro σ' v v' M' l8 h1 h2 h3;exact ih _ _ h1 σ' _ h3
  have zw : ∀ (d:Option Nat) (op:DY) (g:Option (Nat × Bool)) (b9:List Nat),FE st g=some false->(match d with|some d=>XO L l K ((d,.g7 [])::tm) M|none=>XO L l K tm M)->AO L (⟨d,op,g,b9⟩::l) k st (SQ Q):=by
   intro d op g b9 hg hx;rw[wJ hg];cases d with
   | none=>exact ih _ _ hx σ _ hr
   | some d=>exact ih _ _ hx σ _ (hr.put d rfl)
  obtain ⟨d,op,g,b9⟩:=o;cases g with
  | none =>
   cases d with
   | none=>exact none_ op none b9 rfl h
   | some d =>
    cases op with
    | app s z b x y=>exact Ca d (ex tm x) (.app s z b x y) b9 h
    | _=>exact some_ d _ none b9 rfl h
  | some gw =>
   obtain ⟨g,w⟩:=gw;have h:(match tg tm g with
    | .bool b=>fB (b == w) λ c=>match c,d with
     | true,some d=>XE L tm M b9 (λ v M=>XO L l K ((d,v)::tm) M) op
     | true,none=>XE L tm M b9 (λ_ M=>XO L l K tm M) op
     | false,some d=>XO L l K ((d,.g7 [])::tm) M
     | false,none=>XO L l K tm M
    | .g7 []=>match d with
     | some d=>XO L l K ((d,.g7 [])::tm) M
     | none=>XO L l K tm M
    | _=>False):=by cases d<;>cases op<;>exact h
   split at h
   ·rename_i b e
    rw[PI]at h;have hg:=Zr hr (w:=w) e;cases hb:(b == w)<;>rw[hb]at h hg
    ·exact zw d op _ b9 hg (by cases d<;>exact h)
    ·cases d with
     | none=>exact none_ op _ b9 hg h
     | some d=>exact some_ d op _ b9 hg h
   ·rename_i e
    exact zw d op _ b9 (Zs hr e) (by cases d<;>exact h)
   ·exact h.elim
theorem aK {Q:Tm->Mem->Prop} : ∀ {n:Nat} {k:List It} {tm:Tm} {M:Mem},XK L Q n k tm M->AA L k tm M Q
 | 0,k,tm,M,h=>h
 | n+1,[],tm,M,h=>λ σ st hr=>vU.2 ⟨σ,tm,M,hr,h⟩
 | n+1,it::k,tm,M,h=>by
  have h:XS L Q (XK L Q n) (it::k) tm M:=h;have ih : ∀ k tm M,XK L Q n k tm M->AA L k tm M Q:=λ k tm M h=>aK h
  intro σ st hr;cases it with
  | e8 id=>exact vM.2 (ih _ _ _ h σ st hr)
  | jx ts ss =>
   simp only[XS,Ado,TI]at h;cases ss with
   | cons s r=>exact h.elim
   | nil =>
    refine vQ.2 (ih _ _ _ h σ _ ⟨λ j => ?_,hr.sat⟩);rw[WQ,UB,jP,aR,Bool.false_or];cases hc:ts.contains j
    ·simp only[Bool.false_eq_true,if_false,cond_false]
     exact hr.tm j
    ·exact Or.inl rfl
  | lp c=>exact h σ st hr
  | code c =>
   cases c with
   | skip=>exact vZ.2 (ih _ _ _ h σ st hr)
   | ops l d=>exact vV.2 (jG h (λ z9 M' h'=>ih _ _ _ h') σ st hr)
   | dr c ts ss=>exact vP.2 (ih _ _ _ h σ st hr)
   | scope c=>exact vX.2 (ih _ _ _ h σ st hr)
   | seq a b=>exact vY.2 (ih _ _ _ h σ st hr)
   | cond x a b =>
    simp only[XS]at h;split at h
    ·rename_i b' e
     rw[PI]at h;rw[vO (hr.ev e (by intro e;cases e))];cases b'
     ·simpa using ih _ _ _ h σ st hr
     ·simpa using ih _ _ _ h σ st hr
    ·exact h.elim
   | block id c=>exact vN.2 (ih _ _ _ h σ st hr)
   | loop c=>exact vS.2 (iK.1 (h σ st hr))
   | exit id =>
    simp only[XS]at h;split at h
    ·rename_i k' e
     exact (vR e).2 (ih _ _ _ h σ st hr)
    ·exact h.elim
   | ret=>exact vW.2 ⟨σ,tm,M,hr,h⟩
theorem AfX (hr:RX σ tm M st) {r:IY} {K:AV->Prop} (h:WD tm M r K) : ∃ v,E5 st r=some (BH σ v)/\K v/\BH σ v=BV σ v:=by
 cases r with
 | tmp t =>
  simp only[WD]at h;obtain ⟨h1,h2,h3⟩:=oC (σ:=σ) h;refine ⟨_,?_,h3,h2⟩;rcases hr.tm t with e|e
  ·exact absurd e h1
  ·simp only[E5,e]
   cases hv:tg tm t<;>rw[hv]at h h1<;>first|rfl|exact (h:False).elim
 | cell t agg n =>
  simp only[WD]at h;split at h
  ·rename_i key i j e
   split at h
   ·rename_i s cs hm
    cases hi:Nat.beq i 0<;>simp only[hi,cond_true,cond_false]at h;obtain rfl:=BK.1 hi;split at h
    ·rename_i ds hp
     rw[GJ]at h;rcases hr.tm t with e'|e'
     ·rw[e]at e';cases e'
     ·have hs:=hr.sat.site _ _ _ hm
      have v7:=hr.sat.e8 _ _ _ (DJ hm);rw[hs]at v7;have flat : ∀ v,H4 agg (ds.map (BA σ))=some (BH σ v)->E5 st (.cell t agg n)=some (BH σ v):=by
       intro v hv;simp only[E5,e',e,EB,AH.pc,AH.get,hs,v7,A7.e8,List.getElem?_cons_zero,V6 hp,hv]
      cases agg
      ·simp only[nv]at h
       split at h
       ·rename_i c
        obtain ⟨_,h1,h2⟩:=oD (σ:=σ) h;refine ⟨c,flat c (by rw[h1];rfl),h2,?_⟩;rw[h1];cases c<;>first|rfl|exact (h:False).elim
       ·exact h.elim
      ·exact ⟨.agg ds,flat _ rfl,h,rfl⟩
    ·exact h.elim
   ·exact h.elim
  ·exact h.elim
theorem fS (hr:RX σ tm M st) : ∀ {l:List IY} {K:List AV->Prop},ZE tm M l K -> ∃ vs,l.mapM (E5 st)=some (vs.map (BH σ))/\K vs/\vs.map (BH σ)=vs.map (BV σ)
 | [],K,h=>⟨[],rfl,h,rfl⟩
 | r::l,K,h=>by
  obtain ⟨v,h1,h2,h3⟩:=AfX hr (show WD tm M r λ v=>ZE tm M l λ vs=>K (v::vs) from h);obtain ⟨vs,h4,h5,h6⟩:=fS hr h2;exact ⟨v::vs,by rw[List.mapM_cons,h1,h4];rfl,h5,by rw[List.map_cons,List.map_cons,h3,h6]⟩
theorem tM (hs:JU σ st.own M) {q:Bool} : ∀ {l:List AV} {K:List AV->Prop},gN q M l K -> ∃ l',(l.map (BH σ)).mapM (C7 st.own q)=some l'/\K l' /\ ∀ v∈l,BH σ v=BV σ v
 | [],K,h=>⟨[],rfl,h,λ v hv=>by cases hv⟩
 | v::r,K,h=>by
  obtain ⟨v',h1,h2,_,h0⟩:=ZQ hs (show PW q M [] v λ v'=>gN q M r λ r'=>K (v'::r') from h);obtain ⟨l',h3,h4,h5⟩:=tM hs h2;refine ⟨v'::l',?_,h4,λ u hu => ?_⟩
  ·rw[List.map_cons,List.mapM_cons,show C7 st.own q (BH σ v)=some v' from h1,h3];rfl
  ·rcases List.mem_cons.1 hu with rfl|hu
   ·exact h0
   ·exact h5 u hu
theorem Agx {own:AH} {q:Bool} {v v':AV} (h:C7 own q v=some v'):QW own q v=some v':=by
 cases v with
 | g7 vs=>simp [C7,snap]at h
 | _=>exact h
theorem AeY {f:AV->Option AV} {x y:AV} {r l':List AV} (h:(x::y::r).mapM f=some l') : ∃ a b c,l'=a::b::c:=by
 rw[List.mapM_cons,List.mapM_cons]at h;cases hx:f x with
 | none=>rw[hx]at h;cases h
 | some a =>
  cases hy:f y with
  | none=>rw[hx,hy]at h;cases h
  | some b =>
   cases hr:r.mapM f with
   | none=>rw[hx,hy,hr]at h;cases h
   | some c =>
    rw[hx,hy,hr]at h;exact ⟨a,b,c,(Option.some.inj h).symm⟩
theorem jD {fn:AFn} {r:AV} (hr:RX σ tm M st) (h:P5 fn r tm M):UM fn r st:=by
 unfold P5 at h;obtain ⟨vs,h1,h2,h3⟩:=fS hr h;obtain ⟨l',h4,h5,h6⟩:=tM hr.sat h2;unfold UM;rw[h1,Option.map_some,Option.bind_some];match vs,l',h4,h5 with
 | [],l',h4,h5 =>
  obtain rfl:=Option.some.inj h4;obtain ⟨e,hc⟩:=h5;exact ⟨by rw[<-e];rfl,hc⟩
 | [v],l',h4,h5 =>
  rw[List.map_cons,List.map_nil,List.mapM_cons]at h4;cases hv:C7 st.own false (BH σ v) with
  | none=>rw[hv]at h4;cases h4
  | some v' =>
   rw[hv]at h4;obtain rfl:=Option.some.inj h4;obtain ⟨e,hc⟩:=h5;exact ⟨by rw[<-e];exact Agx hv,hc⟩
 | v::u::w,l',h4,h5 =>
  obtain ⟨a,b,c,rfl⟩:=AeY (show List.mapM (C7 st.own false) (BH σ v::BH σ u::w.map (BH σ))=some l' from h4);obtain ⟨e,hc⟩:=h5;refine ⟨?_,hc⟩;rw[<-e];have h4:List.mapM (C7 st.own false) (BH σ v::BH σ u::w.map (BH σ))=some (a::b::c):=h4;show Option.map AV.g7 (List.mapM (C7 st.own false) (BH σ v::BH σ u::w.map (BH σ)))=_;rw[h4];rfl
def P8:AV->Bool
 | .agg cs=>D5 cs
 | v=>tc v
def J0:List AV->Bool
 | []=>true
 | v::r=>bif P8 v then J0 r else false
theorem X7 {v:AV} (h:P8 v=true):BH σ v=v:=by
 cases v with
 | agg cs=>simp only[P8]at h;simp only[BH,BV,H1 h]
 | _=>first|rfl|cases h
theorem U1 {σ:FH} : ∀ {vs:List AV} {i:Nat},J0 vs=true -> ∀ j,g6 (CY i vs) j=BH σ (g6 (CY i vs) j)
 | [],_,_,_=>rfl
 | v::r,i,h,j=>by
  simp only[J0]at h;cases hv:P8 v<;>simp only[hv,cond_true,cond_false]at h
  ·cases h
  ·simp only[Zk,WS]
   split
   ·exact (X7 hv).symm
   ·exact U1 h j
theorem FL.x {f:Nat} {fn:AFn} {vs:List AV} {r:AV} (hL:L f=some fn) (hp:Nat.beq vs.length fn.z8=true) (hd:J0 vs=true) (h:AA L [.code fn.body] (CY 0 vs) [] (P5 fn r)):FL L f vs r:=by
 refine FL.fwd hL (BK.1 hp) (vT (h (λ_ _=>(0,0)) ⟨CY 0 vs,AH.emp⟩ ⟨λ j=>Or.inr ?_,?_⟩) ?_)
 ·rw[JL];exact U1 hd j
 ·exact ⟨(λ_ _ _ e=>by cases e),(λ_ _ _ e=>by simp [b8,c6]at e),(λ_ _ _ e=>by simp [b8,c6]at e),(λ_ _ _ _ _ _ e=>by simp [b8,c6]at e),(λ_ _ _ e=>by simp [b8,c6]at e)⟩
 ·rintro s ⟨σ,tm,M,hr,hq⟩
  exact jD hr hq
theorem Ev.x {f:Nat} {fn:AFn} {vs:List AV} {r:AV} (hL:L f=some fn) (hp:Nat.beq vs.length fn.z8=true) (hd:J0 vs=true) (h:AA L [.code fn.body] (CY 0 vs) [] (P5 fn r)) (hs:fn.pf=false:=by rfl):Ev L f vs r:=(FL.x hL hp hd h).ev hL hs
def FQ:List (Nat × Nat)->Nat->Nat
 | [],k=>k
 | (a,b)::r,k=>bif Nat.beq k a then b else FQ r k
def ZG (τ:List (Nat × Nat)):AV->AV
 | .row k t z o n => .row (FQ τ k) t z o n
 | .ptr k t i j => .ptr (FQ τ k) t i j
 | v=>v
def QT (τ:List (Nat × Nat)):List AV->List AV
 | []=>[]
 | v::r=>ZG τ v::QT τ r
def T6 (τ:List (Nat × Nat)):AV->AV
 | .agg cs => .agg (QT τ cs)
 | .fn p f g cs => .fn p f g (QT τ cs)
 | v=>ZG τ v
def ZI (τ:List (Nat × Nat)):List AV->List AV
 | []=>[]
 | v::r=>T6 τ v::ZI τ r
def ZH (τ:List (Nat × Nat)):AV->AV
 | .g7 cs => .g7 (ZI τ cs)
 | v=>T6 τ v
def ZJ (τ:List (Nat × Nat)):List (List AV)->List (List AV)
 | []=>[]
 | v::r=>QT τ v::ZJ τ r
def JI (τ:List (Nat × Nat)):A7->A7
 | .bx cs => .bx (QT τ cs)
 | .rw z es => .rw z es
 | .bs z es => .bs z (ZJ τ es)
 | .mx rows => .mx rows
 | .hx i v rows => .hx i v rows
 | .vw w rows => .vw w rows
variable {τ:List (Nat × Nat)}
theorem WF : ∀ l:List AV,QT τ l=l.map (ZG τ)
 | []=>rfl
 | v::r=>by rw[QT,WF r];rfl
theorem sL : ∀ l:List AV,ZI τ l=l.map (T6 τ)
 | []=>rfl
 | v::r=>by rw[ZI,sL r];rfl
theorem ZW (v:AV):BA (λ k t=>σ (FQ τ k) t) v=BA σ (ZG τ v):=by cases v<;>rfl
theorem gY (v:AV):BV (λ k t=>σ (FQ τ k) t) v=BV σ (T6 τ v):=by
 cases v with
 | agg cs=>simp only[BV,T6,WF,List.map_map];exact congrArg AV.agg (List.map_congr_left λ v _=>ZW v)
 | fn p f g cs=>simp only[BV,T6,WF,List.map_map];exact congrArg (AV.fn p f g) (List.map_congr_left λ v _=>ZW v)
 | _=>rfl
theorem AgE (v:AV):BH (λ k t=>σ (FQ τ k) t) v=BH σ (ZH τ v):=by
 cases v with
 | g7 cs=>simp only[BH,ZH,sL,List.map_map];exact congrArg AV.g7 (List.map_congr_left λ v _=>gY v)
 | agg cs=>exact gY (.agg cs)
 | fn p f g cs=>exact gY (.fn p f g cs)
 | _=>rfl
theorem sM : ∀ l:List (List AV),ZJ τ l=l.map (QT τ)
 | []=>rfl
 | v::r=>by rw[ZJ,sM r];rfl
theorem VZ {k:Nat} : ∀ (rows:List (Option (Nat × List (List AV)))) (i:Nat),B5 (λ k t=>σ (FQ τ k) t) k i rows=B5 σ (FQ τ k) i rows
 | [],i=>rfl
 | none::r,i=>by rw[B5,B5,VZ r]
 | some (z,es)::r,i=>by rw[B5,B5,VZ r]
theorem zX (c:A7) (k:Nat):c.e8 (λ k t=>σ (FQ τ k) t) k=(JI τ c).e8 σ (FQ τ k):=by
 cases c with
 | bx cs =>
  simp only[A7.e8,JI,WF,List.length_map,List.map_map];rw[List.map_congr_left λ v _=>ZW v];rfl
 | rw z es=>rfl
 | bs z es =>
  simp only[A7.e8,JI,sM,List.map_map];congr 1;refine List.map_congr_left λ cs _ => ?_
  simp only[Function.comp,WF,List.map_map];exact List.map_congr_left λ v _=>ZW v
 | mx rows=>simp only[A7.e8,JI,VZ]
 | hx i v rows=>simp only[A7.e8,JI,VZ]
 | vw w rows=>simp only[A7.e8,JI,VZ]
def ya (k s:Nat) (c:A7):Mem->Mem
 | []=>[(k,s,c)]
 | (j,s',c')::r=>bif Nat.beq k j then (k,s,c)::r else (j,s',c')::ya k s c r
def mv:Mem->Mem
 | []=>[]
 | (k,s,c)::r=>ya k s c (mv r)
theorem qF (k s:Nat) (c:A7) (j:Nat) : ∀ M:Mem,c6 (ya k s c M) j=bif Nat.beq j k then some (s,c) else c6 M j
 | []=>rfl
 | (i,s',c')::r=>by
  simp only[ya];cases hk:Nat.beq k i
  ·simp only[cond_false,c6,qF k s c j r]
   cases hj:Nat.beq j i<;>cases hjk:Nat.beq j k<;>simp only[cond_true,cond_false];exact absurd ((BK.1 hjk).symm.trans (BK.1 hj)) (FD.1 hk)
  ·obtain rfl:=BK.1 hk
   simp only[cond_true,c6];cases Nat.beq j k<;>rfl
theorem TS (j:Nat) : ∀ M:Mem,c6 (mv M) j=c6 M j
 | []=>rfl
 | (k,s,c)::r=>by simp only[mv,qF,TS j r,c6]
theorem YV (k t:Nat):b8 (mv M) k t=b8 M k t:=by simp only[b8,TS]
def xx (τ:List (Nat × Nat)) (M:Mem):List (Nat × Nat × A7)->List (Option (Nat × A7))
 | []=>[]
 | (k,_,_)::r=>c6 M (FQ τ k)::xx τ M r
def xy (τ:List (Nat × Nat)):List (Nat × Nat × A7)->List (Option (Nat × A7))
 | []=>[]
 | (_,s,c)::r=>some (s,JI τ c)::xy τ r
def Ic (tm:Tm):Tm->List AV
 | []=>[]
 | (j,_)::r=>tg tm j::Ic tm r
def Ie (τ:List (Nat × Nat)):Tm->List AV
 | []=>[]
 | (_,v)::r=>ZH τ v::Ie τ r
def Y1:List Nat->Bool
 | []=>true
 | k::r=>bif PM k r then false else Y1 r
def keys (τ:List (Nat × Nat)):Mem->List Nat
 | []=>[]
 | (k,_,_)::r=>FQ τ k::keys τ r
theorem qE : ∀ {M':Mem} {M:Mem},xx τ M M'=xy τ M' -> ∀ k s c,c6 M' k=some (s,c)->c6 M (FQ τ k)=some (s,JI τ c)
 | [],_,_,_,_,_,e=>by cases e
 | (i,s',c')::r,M,h,k,s,c,e=>by
  simp only[xx,xy,List.cons.injEq]at h;simp only[c6]at e;cases hb:Nat.beq k i<;>simp only[hb,cond_true,cond_false]at e
  ·exact qE h.2 k s c e
  ·simp only[Option.some.injEq,Prod.mk.injEq]at e
   obtain ⟨rfl,rfl⟩:=e;rw[BK.1 hb];exact h.1
theorem dT : ∀ {M:Mem} {k s:Nat} {c:A7},c6 M k=some (s,c)->PM (FQ τ k) (keys τ M)=true
 | (i,s',c')::r,k,s,c,e=>by
  simp only[c6]at e;simp only[keys,PM];cases hb:Nat.beq k i<;>simp only[hb,cond_true,cond_false]at e
  ·rw[dT e];cases Nat.beq (FQ τ k) (FQ τ i)<;>rfl
  ·rw[BK.1 hb];simp
theorem qS : ∀ {M:Mem},Y1 (keys τ M)=true -> ∀ {k k' s s':Nat} {c c':A7},c6 M k=some (s,c)->c6 M k'=some (s',c')->FQ τ k=FQ τ k'->k=k'
 | [],_,_,_,_,_,_,_,e,_,_=>by cases e
 | (i,s0,c0)::r,h,k,k',s,s',c,c',e,e',hk=>by
  simp only[keys,Y1]at h;cases hm:PM (FQ τ i) (keys τ r)<;>simp only[hm,cond_true,cond_false]at h
  ·simp only[c6]at e e'
   cases hb:Nat.beq k i<;>cases k6:Nat.beq k' i<;>simp only[hb,k6,cond_true,cond_false]at e e'
   ·exact qS h e e' hk
   ·obtain rfl:=BK.1 k6
    have:=dT (τ:=τ) e
    rw[hk,hm]at this;cases this
   ·obtain rfl:=BK.1 hb
    have:=dT (τ:=τ) e'
    rw[<-hk,hm]at this;cases this
   ·exact (BK.1 hb).trans (BK.1 k6).symm
  ·cases h
theorem uL : ∀ {z9:Tm} {tm:Tm},Ic tm z9=Ie τ z9 -> ∀ j,tg z9 j = .any\/tg tm j=ZH τ (tg z9 j)
 | [],_,_,_=>Or.inl rfl
 | (i,v)::r,tm,h,j=>by
  simp only[Ic,Ie,List.cons.injEq]at h;simp only[tg];cases hb:Nat.beq j i<;>simp only[cond_true,cond_false]
  ·exact uL h.2 j
  ·rw[BK.1 hb];exact Or.inr h.1
def w9 (ts:List Nat) (tm:Tm):Tm:=match ts with
 | []=>tm
 | t::ts=>va (mask 0 (t::ts)) tm
def OD (τ:List (Nat × Nat)) (tm:Tm) (M:Mem) (z9:Tm) (M':Mem):Prop :=
 fT (va 0 z9) λ l=>fM (mv M') λ m=>Ic tm l=Ie τ l/\xx τ M m=xy τ m/\Y1 (keys τ m)=true
theorem BZ {k:List It} {z9:Tm} {M':Mem} {Q:Tm->Mem->Prop} (τ:List (Nat × Nat)) (he:OD τ tm M z9 M') (h:AA L k z9 M' Q):AA L k tm M Q:=by
 unfold OD at he;rw[TI,I8]at he;obtain ⟨ht,hm,hn⟩:=he;intro σ st hr;have hg : ∀ k s c,c6 M' k=some (s,c)->c6 M (FQ τ k)=some (s,JI τ c):=λ k s c e=>qE hm k s c (by rw[TS];exact e)
 have En : ∀ k t c,b8 M' k t=some c->b8 M (FQ τ k) t=some (JI τ c):=by
  intro k t c e;obtain ⟨s,c0,g1,g2,g3⟩:=HD e;have:=hg k s c0 g1
  cases t with
  | zero=>rw[g2 rfl];exact DJ this
  | succ i =>
   obtain ⟨rows,z,es,(rfl|⟨a,v,rfl⟩)|⟨w,rfl⟩,hr,rfl⟩:=g3 i rfl
   ·simp [b8,this,JI,hr]
   ·simp [b8,this,JI,hr]
   ·simp [b8,this,JI,hr]
 refine h (λ k t=>σ (FQ τ k) t) st ⟨λ j => ?_,⟨?_,?_,?_,?_,?_⟩⟩
 ·have:=uL ht j
  rw[WQ,aR,cond_false]at this;rcases this with e|e
  ·exact Or.inl e
  ·rcases hr.tm j with e'|e'
   ·left
    rw[e']at e;cases hv:tg z9 j<;>rw[hv]at e<;>first|rfl|cases e
   ·right
    rw[e',e,AgE]
 ·intro k s c e;exact hr.sat.site _ _ _ (hg k s c e)
 ·intro k t c e;rw[zX];exact hr.sat.e8 _ _ _ (En k t c e)
 ·intro k t c e;exact hr.sat.old _ _ _ (En k t c e)
 ·intro k t k' t' c c' e e' hk
  obtain ⟨q1,q2⟩:=hr.sat.inj _ _ _ _ _ _ (En _ _ _ e) (En _ _ _ e') hk;obtain ⟨s,c0,g,_⟩:=HD e;obtain ⟨s',c0',g',_⟩:=HD e';exact ⟨qS hn (by rw[TS];exact g) (by rw[TS];exact g') q1,q2⟩
 ·intro k t c e hw
  exact hr.sat.low _ _ _ (En k t c e) (by cases c<;>exact hw)
theorem BF {k:List It} {z9:Tm} {M':Mem} {Q:Tm->Mem->Prop} (τ:List (Nat × Nat)) (h:AA L k z9 M' Q) (he:OD τ tm M z9 M':=by (conv=>whnf);exact ⟨rfl,rfl,rfl⟩):AA L k tm M Q:=BZ τ he h
theorem iI {k:List It} {Q:Tm->Mem->Prop} (h:AA L k (va 0 tm) (mv M) Q):AA L k tm M Q:=by
 intro σ st hr;refine h σ st ⟨λ j => ?_,⟨?_,?_,?_,?_,?_⟩⟩
 ·rw[WQ,aR,cond_false];exact hr.tm j
 ·intro k s c e;rw[TS]at e;exact hr.sat.site _ _ _ e
 ·intro k t c e;rw[YV]at e;exact hr.sat.e8 _ _ _ e
 ·intro k t c e;rw[YV]at e;exact hr.sat.old _ _ _ e
 ·intro k t k' t' c c' e e' hk
  rw[YV]at e e';exact hr.sat.inj _ _ _ _ _ _ e e' hk
 ·intro k t c e hw;rw[YV]at e;exact hr.sat.low _ _ _ e hw
def uy (k:Nat) (c:A7):Mem->Mem
 | []=>[]
 | (j,s,c')::r=>bif Nat.beq k j then (j,s,c)::r else (j,s,c')::uy k c r
theorem YT {k j s:Nat} {c c':A7} : ∀ {M:Mem},c6 (uy k c M) j=some (s,c') -> ∃ c0,c6 M j=some (s,c0)/\(c0=c'\/(j=k/\c'=c))
 | [],e=>by cases e
 | (i,s0,c0)::r,e=>by
  simp only[uy]at e;cases hk:Nat.beq k i<;>simp only[hk,cond_true,cond_false,c6]at e ⊢
  ·cases hj:Nat.beq j i<;>simp only[hj,cond_true,cond_false]at e ⊢
   ·exact YT e
   ·exact ⟨c',e,Or.inl rfl⟩
  ·cases hj:Nat.beq j i<;>simp only[hj,cond_true,cond_false]at e ⊢
   ·exact ⟨c',e,Or.inl rfl⟩
   ·simp only[Option.some.injEq,Prod.mk.injEq]at e
    obtain ⟨rfl,rfl⟩:=e;exact ⟨c0,rfl,Or.inr ⟨(BK.1 hj).trans (BK.1 hk).symm,rfl⟩⟩
theorem WU {kk:List It} {Q:Tm->Mem->Prop} (k s:Nat) (e:c6 M k=some (s,.rw 1 [])) (h:AA L kk tm (uy k (.mx []) M) Q):AA L kk tm M Q:=by
 intro σ st hr;have hg : ∀ j t c,b8 (uy k (.mx []) M) j t=some c -> ∃ c0,b8 M j t=some c0/\c0.e8 σ j=c.e8 σ j:=by
  intro j t c g;obtain ⟨s1,c1,g1,g2,g3⟩:=HD g;obtain ⟨c0,q1,q2⟩:=YT g1;cases t with
  | zero =>
   rw[g2 rfl];rcases q2 with rfl|⟨rfl,rfl⟩
   ·exact ⟨_,DJ q1,rfl⟩
   ·rw[e]at q1
    simp only[Option.some.injEq,Prod.mk.injEq]at q1;obtain ⟨rfl,rfl⟩:=q1;exact ⟨_,DJ e,rfl⟩
  | succ i =>
   obtain ⟨rows,z,es,(rfl|⟨a,v,rfl⟩)|⟨w,rfl⟩,Bn,rfl⟩:=g3 i rfl
   ·rcases q2 with rfl|⟨rfl,h0⟩
    ·exact ⟨.rw z es,by simp [b8,q1,Bn],rfl⟩
    ·obtain rfl:rows=[]:=by simpa using h0
     simp at Bn
   ·rcases q2 with rfl|⟨rfl,h0⟩
    ·exact ⟨.rw z es,by simp [b8,q1,Bn],rfl⟩
    ·cases h0
   ·rcases q2 with rfl|⟨rfl,h0⟩
    ·exact ⟨.rw z es,by simp [b8,q1,Bn],rfl⟩
    ·cases h0
 refine h σ st ⟨hr.tm,⟨?_,?_,?_,?_,?_⟩⟩
 ·intro j s' c g
  obtain ⟨c0,q1,_⟩:=YT g;exact hr.sat.site _ _ _ q1
 ·intro j t c g
  obtain ⟨c0,q1,q2⟩:=hg j t c g;rw[<-q2];exact hr.sat.e8 _ _ _ q1
 ·intro j t c g
  obtain ⟨c0,q1,_⟩:=hg j t c g;exact hr.sat.old _ _ _ q1
 ·intro j t j' t' c c' g g' hj
  obtain ⟨_,q1,_⟩:=hg j t c g;obtain ⟨_,q2,_⟩:=hg j' t' c' g';exact hr.sat.inj _ _ _ _ _ _ q1 q2 hj
 ·intro j t c g hw
  cases t with
  | zero =>
   obtain ⟨s1,c1,g1,g2,g3⟩:=HD g;obtain ⟨c0,q1,q2⟩:=YT g1;have g2:=g2 rfl;subst g2;rcases q2 with rfl|⟨rfl,rfl⟩
   ·exact hr.sat.low _ _ _ (DJ q1) hw
   ·exact hr.sat.low _ _ _ (DJ e) rfl
  | succ t =>
   obtain ⟨c0,q1,_⟩:=hg _ _ _ g;exact hr.sat.low _ _ _ q1 (YW q1)
theorem F4 {k:List It} {c:BI} {Q:Tm->Mem->Prop} (h:AA L (.code c :: .lp c::k) tm M Q):AA L (.lp c::k) tm M Q:=λ σ st hr=>iK.2 (h σ st hr)
theorem SH {α:Type} {k:List It} {c:BI} {Q:Tm->Mem->Prop} (m:α->Nat) (P:α->Prop) (vs:α->Tm) (Ms:α->Mem) (ts:List Nat) (τ:List (Nat × Nat)) (a:α)
  (he:OD τ tm M (vs a++w9 ts tm) (Ms a++M)) (hp:P a)
  (step : ∀ a,P a->(∀ a',m a'<m a->P a'->AA L (.lp c::k) (vs a'++w9 ts tm) (Ms a'++M) Q)->AA L (.code c :: .lp c::k) (vs a++w9 ts tm) (Ms a++M) Q):AA L (.lp c::k) tm M Q:=by
 have key : ∀ n a,m a<n->P a->AA L (.lp c::k) (vs a++w9 ts tm) (Ms a++M) Q:=by
  intro n;induction n with
  | zero=>intro a h;omega
  | succ n ih =>
   intro a ha hp;exact F4 (step a hp λ a' h1 h2=>ih a' (by omega) h2)
 exact BZ τ he (key (m a+1) a (by omega) hp)
end
end Go.c5
namespace Go.c5
section
variable {α:Type} {enc:α->List AV} {l:List α} {L:Lib}
theorem AG {p q A B:Prop} (h1:p->A) (h2:q->B):AF p q A B:=⟨h1,h2⟩
theorem AY {p A:Prop} (h1:p) (h2:A):AM p A:=⟨h1,h2⟩
section
variable {K:AV->Prop} {a b:Int} {k k':IntKind} {op:BinOp}
theorem W8 {v:AV} (h:DI op k a k' b=some v) (hk:K v):AC op k a k' b K:=⟨v,h,hk⟩
theorem AU (hr : -9223372036854775808<=a+b/\a+b<=9223372036854775807) (hk:K (.int .i64 (a+b))):AC .add .i64 a .i64 b K:=⟨_,by simp only[DI,if_true];rw[IntWalk.i64_in _ hr],hk⟩
theorem B6 (hr : -9223372036854775808<=a-b/\a-b<=9223372036854775807) (hk:K (.int .i64 (a-b))):AC .sub .i64 a .i64 b K:=⟨_,by simp only[DI,if_true];rw[IntWalk.i64_in _ hr],hk⟩
theorem EF (hr : -9223372036854775808<=a*b/\a*b<=9223372036854775807) (hk:K (.int .i64 (a*b))):AC .mul .i64 a .i64 b K:=⟨_,by simp only[DI,if_true];rw[IntWalk.i64_in _ hr],hk⟩
theorem SR (hb:0<b) (h1:(0<=a\/a%b=0)->0<=a%b->a%b<b->K (.int .i64 (a%b))) (h2:a<0->a%b≠0->0<=a%b->a%b<b->K (.int .i64 (a%b-b))):AC .rem .i64 a .i64 b K:=by
 have h5:0<=a%b:=Int.emod_nonneg _ (by omega);have h6:a%b<b:=Int.emod_lt_of_pos _ hb;have e:DI .rem .i64 a .i64 b=some (.int .i64 (a.tmod b)):=by simp only[DI];rw[if_pos ⟨trivial,by omega⟩]
 by_cases hc:0<=a\/a%b=0
 ·rw[uM hb,if_pos hc]at e
  exact ⟨_,e,h1 hc h5 h6⟩
 ·rw[uM hb,if_neg hc]at e
  exact ⟨_,e,h2 (by omega) (by omega) h5 h6⟩
theorem KG (hb:0<b) (ha : -9223372036854775808<=a/\a<=9223372036854775807) (h1:(0<=a\/a%b=0)->K (.int .i64 (a/b))) (h2:a<0->a%b≠0->K (.int .i64 (a/b+1))):AC .quo .i64 a .i64 b K:=by
 have hr:=Vq (m:=b) (by omega) ha;have e:DI .quo .i64 a .i64 b=some (.int .i64 (IntKind.i64.wrap (a.tdiv b))):=by simp only[DI];rw[if_pos ⟨trivial,by omega⟩]
 by_cases hc:0<=a\/a%b=0
 ·rw[uK hb,if_pos hc,IntWalk.i64_in _ hr]at e
  exact ⟨_,e,h1 hc⟩
 ·have Amp:a/b<0:=Int.ediv_neg_of_neg_of_pos (by omega) hb
  rw[uK hb,if_neg hc,IntWalk.i64_in _ (by omega)]at e;exact ⟨_,e,h2 (by omega) (by omega)⟩
theorem xF (h:0<=b/\b<=63) (hk:K (.int .i64 (a/pw b))):AC .shr .i64 a k' b K:=⟨_,Agm h,hk⟩
theorem xH (hk:K (.int k (k.wrap (a+b)))):AC .add k a k b K:=⟨_,by simp only[DI,if_true],hk⟩
theorem CI.neg (hr : -9223372036854775808 <= -a /\ -a<=9223372036854775807) (hk:K (.int .i64 (-a))):CI .neg .i64 a K:=⟨_,by simp only[Q0];rw[show (0:Int)-a = -a by omega,IntWalk.i64_in _ hr],hk⟩
theorem CI.go {op:UnOp} {v:AV} (h:Q0 op (.int k a)=some v) (hk:K v):CI op k a K:=⟨v,h,hk⟩
end
theorem UG {k:IntKind} {n:Int} {K:Int->Prop} (e:k.wrap n=n) (h:K n):AW k n K:=by unfold AW;rw[e];exact h
theorem CR {n:Int} {K:Int->Prop} (hr:0<=n/\n<=18446744073709551615) (h:K n):AW .u64 n K:=UG (IntWalk.u64_in _ hr) h
theorem Q3 {n:Int} {K:Int->Prop} (hr : -9223372036854775808<=n/\n<=9223372036854775807) (h:K n):AW .i64 n K:=UG (IntWalk.i64_in _ hr) h
theorem BC {a:Int} {z:Nat} {K:List AV->Prop} {e:α} (he:l[a.toNat]? = some e) (h0:0<=a) (hz:(enc e).length=z) (h:K (enc e)):AX (l.map enc) a z K:=⟨h0,enc e,by simp [he],hz,h⟩
theorem aI {a:Int} {z:Nat} {K:List AV->Prop} (h0:0<=a/\a<l.length) (hz : ∀ e,(enc e).length=z) (h : ∀ e,l[a.toNat]? = some e->K (enc e)):AX (l.map enc) a z K:=by
 have he:l[a.toNat]? = some (l[a.toNat]'(by omega)):=zE _;exact BC he h0.1 (hz _) (h _ he)
theorem xK {n z:Nat} {K:List AV->Prop} (hn:n<l.length) (hz : ∀ e,(enc e).length=z) (h : ∀ e,l[n]? = some e->K (enc e)):AX (l.map enc) (n:Int) z K :=
 aI ⟨by omega,by omega⟩ hz h
theorem FU {i j n:Nat} {K:List AV->Prop} {f:α->List AV} (hi:i<l.length) (hp : ∀ e,part (enc e) j n=some (f e)) (h : ∀ e,l[i]? = some e->K (f e)):A5 (l.map enc) (0+((i:Int)).toNat) j n K:=by
 have he:l[i]? = some l[i]:=zE _;rw[Nat.zero_add,Int.toNat_natCast];exact ⟨enc l[i],f l[i],by simp [he],hp _,h _ he⟩
theorem W6 {i:Int} {j n:Nat} {K:List AV->Prop} {f:α->List AV} (hi:0<=i/\i<l.length) (hp : ∀ e,part (enc e) j n=some (f e)) (h : ∀ e,l[i.toNat]? = some e->K (f e)):A5 (l.map enc) (0+i.toNat) j n K:=by
 have hl:i.toNat<l.length:=by omega
 have he:l[i.toNat]? = some l[i.toNat]:=zE _;rw[Nat.zero_add];exact ⟨enc l[i.toNat],f l[i.toNat],by rw[List.getElem?_map,he];rfl,hp _,h _ he⟩
theorem FW {i:Nat} {vs:List AV} {K:List (List AV)->Prop} (e:α) (he:vs=enc e) (hz : ∀ x,(enc x).length=vs.length) (hi:i<l.length) (h:K ((l.set i e).map enc)):A6 (l.map enc) (0+((i:Int)).toNat) 0 vs K:=by
 rw[Nat.zero_add,Int.toNat_natCast];refine ⟨enc l[i],by simp [zE hi],by rw[hz];omega,?_⟩;rw[show splice (enc l[i]) 0 vs=vs by simp [splice,<-hz l[i]],he,<-List.map_set];exact h
theorem SP {i j n:Nat} {K:List AV->Prop} {e:α} {ds:List AV} (he:l[i]? = some e) (hp:part (enc e) j n=some ds) (h:K ds):A5 (l.map enc) i j n K:=⟨enc e,ds,by simp [he],hp,h⟩
theorem AgC {cs vs:List AV} (h:cs.length=vs.length):splice cs 0 vs=vs:=by
 simp [splice,<-h]
theorem xQ {i:Nat} {vs:List AV} {K:List (List AV)->Prop} (e:α) (he:vs=enc e) (hz : ∀ x,(enc x).length=vs.length) (hi:i<l.length) (h:K ((l.set i e).map enc)):A6 (l.map enc) i 0 vs K:=by
 refine ⟨enc l[i],by simp [zE hi],by rw[hz];omega,?_⟩;rw[AgC (hz _),he,<-List.map_set];exact h
theorem EX {a b:Int} {bytes:Nat} {zero:List AV} {K:List (List AV)->Nat->Prop} (x:α) (n:Nat) (hx:zero=enc x) (hn:a=n) (hr:a<=b/\b*bytes<=140737488355328/\b<=9223372036854775807) (h:K ((List.replicate n x).map enc) n):B3 a b bytes zero K:=by
 subst hn hx;refine ⟨⟨by omega,hr.1,by simpa [DP] using hr.2.1,hr.2.2⟩,?_⟩;simpa using h
theorem AR {K:Nat->Prop} (h:K l.length):AQ (l.map enc) K:=by unfold AQ;simpa using h
theorem EO {len z bytes:Nat} {vs:List AV} {K:List (List AV)->Nat->Prop} (e:α) (he:vs=enc e) (hl:len=l.length) (hz:vs.length=z) (hr:(l.length+1)*bytes<=140737488355328) (ae:l.length+1<=9223372036854775807) (h:K ((l++[e]).map enc) (l++[e]).length):BS (l.map enc) len [vs] z bytes K:=by
 subst hl;refine ⟨by simp,by simpa using hz,by simpa [DP] using hr,by simpa using ae,?_⟩;rw[List.take_of_length_le (by simp)];simpa [he] using h
theorem WY {len z bytes:Nat} {l':List α} {K:List (List AV)->Nat->Prop} (hl:len=l.length) (hz : ∀ x,(enc x).length=z) (hr:(l.length+l'.length)*bytes<=140737488355328) (ae:l.length+l'.length<=9223372036854775807) (h:K ((l++l').map enc) (l++l').length):BS (l.map enc) len (l'.map enc) z bytes K:=by
 subst hl;refine ⟨by simp,by simp [hz],by simpa [DP] using hr,by simpa using ae,?_⟩;rw[List.take_of_length_le (by simp)];simpa using h
theorem UF {z bytes:Nat} {vs:List AV} {K:List (List AV)->Nat->Prop} (e:α) (he:vs=enc e) (hz:vs.length=z) (hb:bytes<=140737488355328) (h:K ([e].map enc) 1):B7 [vs] z bytes K :=
 ⟨by simpa using hz,by simpa [DP] using hb,by simp,by simpa [he] using h⟩
theorem P0 {z bytes:Nat} {K:List (List AV)->Nat->Prop} (hz : ∀ x,(enc x).length=z) (hr:l.length*bytes<=140737488355328) (ae:l.length<=9223372036854775807) (h:K (l.map enc) l.length):B7 (l.map enc) z bytes K :=
 ⟨by simp [hz],by simpa [DP] using hr,by simpa using ae,by simpa using h⟩
theorem XH {off len:Nat} {K:List (List AV)->Prop} (hl:off+len<=l.length) (h:K (((l.drop off).take len).map enc)):BQ (l.map enc) off len K :=
 ⟨by simpa using hl,by rw[<-List.map_drop,<-List.map_take];exact h⟩
theorem eL : ∀ {e:List AV},FJ e=true->LZ e=true/\e.map nl=e
 | [],_=>⟨rfl,rfl⟩
 | v::r,h=>by
  have hv:FJ r=true:=by cases v<;>simp only[FJ]at h<;>first|cases h|exact h
  obtain ⟨h1,h2⟩:=eL hv;cases v<;>simp only[FJ]at h<;>first|cases h|exact ⟨h1,by rw[List.map_cons,h2];rfl⟩
theorem qW : ∀ {es:List (List AV)},(∀ e∈es,FJ e=true)->es.map (λ e=>e.map nl)=es
 | [],_=>rfl
 | e::r,h=>by rw[List.map_cons,(eL (h e List.mem_cons_self)).2,qW λ x hx=>h x (List.mem_cons_of_mem _ hx)]
theorem UP {es:List (List AV)} {off len:Nat} {K:List (List AV)->Prop} (hl:off+len<=es.length) (hz : ∀ e∈es,FJ e=true) (h:K ((es.drop off).take len)):A2 es off len K :=
 ⟨hl,λ e he=>(eL (hz e he)).1,by rw[qW λ e he=>hz e (List.mem_of_mem_drop (List.mem_of_mem_take he))];exact h⟩
theorem DL {off len:Nat} {K:List (List AV)->Prop} (hz : ∀ x,FJ (enc x)=true) (ho:off=0) (hl:len=l.length) (h:K (l.map enc)):A2 (l.map enc) off len K:=by
 subst hl ho;refine UP (by simp) (λ e he => ?_) (by rw[List.drop_zero,List.take_of_length_le (by simp)];exact h);obtain ⟨x,_,rfl⟩:=List.mem_map.1 he;exact hz x
theorem HL {off len:Nat} {K:List (List AV)->Prop} (hz : ∀ x,FJ (enc x)=true) (hl:off+len<=l.length) (h:K (((l.drop off).take len).map enc)):A2 (l.map enc) off len K:=by
 refine UP (by simpa using hl) (λ e he => ?_) (by rw[<-List.map_drop,<-List.map_take];exact h);obtain ⟨x,_,rfl⟩:=List.mem_map.1 he;exact hz x
theorem D9 {e:List AV} {K:List (List AV)->Prop} (h:K [e]):BQ [e] 0 1 K:=⟨by simp,h⟩
theorem xP {K:List (List AV)->Prop} (h:K []):A2 [] 0 0 K:=⟨by simp,by simp,h⟩
theorem IL {e:List AV} {K:List (List AV)->Prop} (h0:FJ e=true) (h:K [e]):A2 [e] 0 1 K:=UP (by simp) (by simpa using h0) h
theorem ST {e e':List AV} {K:List (List AV)->Prop} (h0:FJ e=true) (h1:FJ e'=true) (h:K [e,e']):A2 [e,e'] 0 2 K:=UP (by simp) (by simpa using ⟨h0,h1⟩) h
section
variable {β:Type} {z:Nat} {ll:List (List β)} {en:β->List AV}
abbrev BJ (z:Nat) (en:β->List AV) (ll:List (List β)):List (Option (Nat × List (List AV))):=ll.map λ r=>some (z,r.map en)
theorem FM {i:Nat} {K:Option (Nat × List (List AV))->Prop} (hi:i<ll.length) (h : ∀ r,ll[i]? = some r->K (some (z,r.map en))):BN (BJ z en ll) (0+((i:Int)).toNat) K:=by
 have he:ll[i]? = some ll[i]:=zE _;exact ⟨_,by rw[Nat.zero_add,Int.toNat_natCast,List.getElem?_map,he];rfl,h _ he⟩
theorem wT {i:Nat} {K:Nat->List (List AV)->Prop} {r:List β} (hr:ll[i]? = some r) (h:K z (r.map en)):BG (BJ z en ll) i K :=
 ⟨z,r.map en,by rw[List.getElem?_map,hr];rfl,h⟩
theorem F6 {i:Nat} {K:Nat->List (List AV)->Prop} {r:List β} (hr:ll[i]? = some r) (h:K z (r.map en)):BG (BJ z en ll) (0+((i:Int)).toNat) K:=by
 rw[Nat.zero_add,Int.toNat_natCast];exact wT hr h
theorem aH {i:Nat} {r r':List β} {K:List (Option (Nat × List (List AV)))->Prop} (hl:r'.length=r.length) (h:K (BJ z en (ll.set i r'))):CM (BJ z en ll) (0+((i:Int)).toNat) z (r.map en) (r'.map en) K:=by
 rw[Nat.zero_add,Int.toNat_natCast];exact ⟨by simpa using hl,by simpa [BJ,List.map_set] using h⟩
theorem SI {len bytes:Nat} {r:List β} {K:List (Option (Nat × List (List AV)))->Nat->Prop} (hl:len=ll.length) (hr:(ll.length+1)*bytes<=140737488355328) (ae:ll.length+1<=9223372036854775807) (h:K (BJ z en (ll++[r])) (ll++[r]).length):CP (BJ z en ll) len (some (z,r.map en)) bytes K:=by
 subst hl;exact ⟨by simp,by simpa [DP] using hr,ae,by simpa [BJ] using h⟩
theorem sO (q:Bool) : ∀ ll:List (List β),QU q (BJ z en ll)=ll.map λ r=>[AV.sl q (r.map en)]
 | []=>rfl
 | r::l=>by simp only[BJ,List.map_cons,QU];rw[show QU q (l.map λ r=>some (z,r.map en))=_ from sO q l]
theorem I2 {q:Bool} {off len:Nat} {K:List (List AV)->Prop} (hz : ∀ x,FJ (en x)=true) (ho:off=0) (hl:len=ll.length) (h:K (ll.map λ r=>[AV.sl q (r.map en)])):CE q (BJ z en ll) off len K:=by
 refine ⟨ho,by simpa using hl,λ z' es hm e he => ?_,by rw[sO];exact h⟩;obtain ⟨r,_,hr⟩:=List.mem_map.1 hm;simp only[Option.some.injEq,Prod.mk.injEq]at hr;obtain ⟨rfl,rfl⟩:=hr;obtain ⟨x,_,rfl⟩:=List.mem_map.1 he;exact hz x
end
theorem wN {len:Nat} {a:Int} {K:Nat->Nat->Prop} (h0:0<=a/\a<=len) (h:K a.toNat len):BO (some a) none len K:=⟨a.toNat,len,⟨h0.1,rfl⟩,rfl,by omega,h⟩
theorem iM {len:Nat} {b:Int} {K:Nat->Nat->Prop} (h0:0<=b/\b<=len) (h:K 0 b.toNat):BO none (some b) len K:=⟨0,b.toNat,rfl,⟨h0.1,h0.2,rfl⟩,by omega,h⟩
theorem P1 {len:Nat} {a b:Int} {K:Nat->Nat->Prop} (h0:0<=a/\a<=b/\b<=len) (h:K a.toNat b.toNat):BO (some a) (some b) len K:=⟨a.toNat,b.toNat,⟨h0.1,rfl⟩,⟨by omega,by omega,rfl⟩,by omega,h⟩
theorem jE {z:Nat} {lo hi:Option Int} {K:List (List AV)->Prop} (hz : ∀ x,(enc x).length=z) (h:BO lo hi l.length λ a h=>K (((l.take h).drop a).map enc)):B9 z (l.map enc) lo hi K:=by
 refine ⟨by simp [hz],?_⟩;rw[List.length_map];obtain ⟨a,b,h1,h2,h3,h4⟩:=h;refine ⟨a,b,h1,h2,h3,?_⟩;show K _;rw[<-List.map_take,<-List.map_drop];exact h4
theorem Q8 {z k:Nat} {K:List (List AV)->Prop} (hz : ∀ x,(enc x).length=z) (hk:k<=l.length) (h:K ((l.take k).map enc)):B9 z (l.map enc) none (some (k:Int)) K :=
 jE hz (iM (by omega) (by simpa using h))
theorem xO {z k:Nat} {K:List (List AV)->Prop} (hz : ∀ x,(enc x).length=z) (hk:k<=l.length) (h:K ((l.drop k).map enc)):B9 z (l.map enc) (some (k:Int)) none K :=
 jE hz (wN (by omega) (by simpa using h))
theorem AE {f:Nat} {vs:List AV} {K:AV->Prop} {r:AV} (h:Ev L f vs r) (hk:K r):AB L f vs K:=⟨r,h,hk⟩
theorem iN {f:Nat} {vs:List AV} {K:AV->Prop} {p:Prop} [Decidable p] (h:Ev L f vs (.bool (decide p))) (h1:p->K (.bool true)) (h2 : ¬ p->K (.bool false)):AB L f vs K:=by
 refine ⟨_,h,?_⟩;by_cases e:p
 ·rw[decide_eq_true e];exact h1 e
 ·rw[decide_eq_false e];exact h2 e
theorem AZ {a r:AV} (h:a=r) (hc:A4 r):AJ a r:=⟨h,hc⟩
theorem IZ {a r:Bool} (h:a=r):AJ (.bool a) (.bool r):=⟨by rw[h],by simp [A4]⟩
theorem iT {p:Prop} [Decidable p] (h:p):AJ (.bool true) (.bool (decide p)):=⟨by simp [h],by simp [A4]⟩
theorem W3 {p:Prop} [Decidable p] (h : ¬ p):AJ (.bool false) (.bool (decide p)):=⟨by simp [h],by simp [A4]⟩
theorem C2 {k:IntKind} {a b:Int} (h:a=b):AJ (.int k a) (.int k b):=⟨by rw[h],by simp [A4]⟩
theorem S5 (h : ∀ x,CW (enc x)) : ∀ l:List α,F5 (l.map enc)
 | []=>by simp [F5]
 | x::r=>by rw[List.map_cons,F5];exact ⟨h x,S5 h r⟩
end
theorem BR {α:Type} {L:Lib} {k:List It} {cd:BI} {tm:Tm} {M:Mem} {Q:Tm->Mem->Prop} (m:α->Nat) (P:α->Prop) (vs:α->Tm) (Ms:α->Mem) (ts:List Nat) (τ:List (Nat × Nat)) (a:α)
  (he:OD τ tm M (vs a++w9 ts tm) (Ms a++M)) (hp:P a)
  (step : ∀ a,P a->(∀ a',m a'<m a->P a'->AA L (.lp cd::k) (vs a'++w9 ts tm) (Ms a'++M) Q)->AA L (.code cd :: .lp cd::k) (vs a++w9 ts tm) (Ms a++M) Q):AA L (.lp cd::k) tm M Q :=
 SH (α:=α) (λ x=>m x) (λ x=>P x) (λ x=>vs x) (λ x=>Ms x) ts τ a he hp λ a h ih=>step a h λ a' h1 h2=>ih a' h1 h2
theorem F3 {α β:Type} {L:Lib} {k:List It} {cd:BI} {tm:Tm} {M:Mem} {Q:Tm->Mem->Prop} (m:α->β->Nat) (P:α->β->Prop) (vs:α->β->Tm) (Ms:α->β->Mem) (ts:List Nat) (τ:List (Nat × Nat)) (a:α) (b:β)
  (he:OD τ tm M (vs a b++w9 ts tm) (Ms a b++M)) (hp:P a b)
  (step : ∀ a b,P a b->(∀ a' b',m a' b'<m a b->P a' b'->AA L (.lp cd::k) (vs a' b'++w9 ts tm) (Ms a' b'++M) Q)->AA L (.code cd :: .lp cd::k) (vs a b++w9 ts tm) (Ms a b++M) Q):AA L (.lp cd::k) tm M Q :=
 SH (α:=α × β) (λ x=>m x.1 x.2) (λ x=>P x.1 x.2) (λ x=>vs x.1 x.2) (λ x=>Ms x.1 x.2) ts τ (a,b) he hp λ⟨a,b⟩ h ih=>step a b h λ a' b' h1 h2=>ih (a',b') h1 h2
theorem GE {α β γ:Type} {L:Lib} {k:List It} {cd:BI} {tm:Tm} {M:Mem} {Q:Tm->Mem->Prop} (m:α->β->γ->Nat) (P:α->β->γ->Prop) (vs:α->β->γ->Tm) (Ms:α->β->γ->Mem) (ts:List Nat) (τ:List (Nat × Nat)) (a:α) (b:β) (c:γ)
  (he:OD τ tm M (vs a b c++w9 ts tm) (Ms a b c++M)) (hp:P a b c)
  (step : ∀ a b c,P a b c->(∀ a' b' c',m a' b' c'<m a b c->P a' b' c'->AA L (.lp cd::k) (vs a' b' c'++w9 ts tm) (Ms a' b' c'++M) Q)->AA L (.code cd :: .lp cd::k) (vs a b c++w9 ts tm) (Ms a b c++M) Q):AA L (.lp cd::k) tm M Q :=
 SH (α:=α × β × γ) (λ x=>m x.1 x.2.1 x.2.2) (λ x=>P x.1 x.2.1 x.2.2) (λ x=>vs x.1 x.2.1 x.2.2) (λ x=>Ms x.1 x.2.1 x.2.2) ts τ (a,b,c) he hp λ⟨a,b,c⟩ h ih=>step a b c h λ a' b' c' h1 h2=>ih (a',b',c') h1 h2
theorem Z8 {α β γ δ:Type} {L:Lib} {k:List It} {cd:BI} {tm:Tm} {M:Mem} {Q:Tm->Mem->Prop} (m:α->β->γ->δ->Nat) (P:α->β->γ->δ->Prop) (vs:α->β->γ->δ->Tm) (Ms:α->β->γ->δ->Mem) (ts:List Nat) (τ:List (Nat × Nat)) (a:α) (b:β) (c:γ) (d:δ)
  (he:OD τ tm M (vs a b c d++w9 ts tm) (Ms a b c d++M)) (hp:P a b c d)
  (step : ∀ a b c d,P a b c d->(∀ a' b' c' d',m a' b' c' d'<m a b c d->P a' b' c' d'->AA L (.lp cd::k) (vs a' b' c' d'++w9 ts tm) (Ms a' b' c' d'++M) Q)->AA L (.code cd :: .lp cd::k) (vs a b c d++w9 ts tm) (Ms a b c d++M) Q):AA L (.lp cd::k) tm M Q :=
 SH (α:=α × β × γ × δ) (λ x=>m x.1 x.2.1 x.2.2.1 x.2.2.2) (λ x=>P x.1 x.2.1 x.2.2.1 x.2.2.2) (λ x=>vs x.1 x.2.1 x.2.2.1 x.2.2.2) (λ x=>Ms x.1 x.2.1 x.2.2.1 x.2.2.2) ts τ (a,b,c,d) he hp λ⟨a,b,c,d⟩ h ih=>step a b c d h λ a' b' c' d' h1 h2=>ih (a',b',c',d') h1 h2
theorem vG {α β γ δ ε:Type} {L:Lib} {k:List It} {cd:BI} {tm:Tm} {M:Mem} {Q:Tm->Mem->Prop} (m:α->β->γ->δ->ε->Nat) (P:α->β->γ->δ->ε->Prop) (vs:α->β->γ->δ->ε->Tm) (Ms:α->β->γ->δ->ε->Mem) (ts:List Nat) (τ:List (Nat × Nat)) (a:α) (b:β) (c:γ) (d:δ) (e:ε)
  (he:OD τ tm M (vs a b c d e++w9 ts tm) (Ms a b c d e++M)) (hp:P a b c d e)
  (step : ∀ a b c d e,P a b c d e->(∀ a' b' c' d' e',m a' b' c' d' e'<m a b c d e->P a' b' c' d' e'->AA L (.lp cd::k) (vs a' b' c' d' e'++w9 ts tm) (Ms a' b' c' d' e'++M) Q)->AA L (.code cd :: .lp cd::k) (vs a b c d e++w9 ts tm) (Ms a b c d e++M) Q):AA L (.lp cd::k) tm M Q :=
 SH (α:=α × β × γ × δ × ε) (λ x=>m x.1 x.2.1 x.2.2.1 x.2.2.2.1 x.2.2.2.2) (λ x=>P x.1 x.2.1 x.2.2.1 x.2.2.2.1 x.2.2.2.2) (λ x=>vs x.1 x.2.1 x.2.2.1 x.2.2.2.1 x.2.2.2.2) (λ x=>Ms x.1 x.2.1 x.2.2.1 x.2.2.2.1 x.2.2.2.2) ts τ (a,b,c,d,e) he hp λ⟨a,b,c,d,e⟩ h ih=>step a b c d e h λ a' b' c' d' e' h1 h2=>ih (a',b',c',d',e') h1 h2
theorem vH {α β γ δ ε ζ:Type} {L:Lib} {k:List It} {cd:BI} {tm:Tm} {M:Mem} {Q:Tm->Mem->Prop} (m:α->β->γ->δ->ε->ζ->Nat) (P:α->β->γ->δ->ε->ζ->Prop) (vs:α->β->γ->δ->ε->ζ->Tm) (Ms:α->β->γ->δ->ε->ζ->Mem) (ts:List Nat) (τ:List (Nat × Nat)) (a:α) (b:β) (c:γ) (d:δ) (e:ε) (f:ζ)
  (he:OD τ tm M (vs a b c d e f++w9 ts tm) (Ms a b c d e f++M)) (hp:P a b c d e f)
  (step : ∀ a b c d e f,P a b c d e f->(∀ a' b' c' d' e' f',m a' b' c' d' e' f'<m a b c d e f->P a' b' c' d' e' f'->AA L (.lp cd::k) (vs a' b' c' d' e' f'++w9 ts tm) (Ms a' b' c' d' e' f'++M) Q)->AA L (.code cd :: .lp cd::k) (vs a b c d e f++w9 ts tm) (Ms a b c d e f++M) Q):AA L (.lp cd::k) tm M Q :=
 SH (α:=α × β × γ × δ × ε × ζ) (λ x=>m x.1 x.2.1 x.2.2.1 x.2.2.2.1 x.2.2.2.2.1 x.2.2.2.2.2) (λ x=>P x.1 x.2.1 x.2.2.1 x.2.2.2.1 x.2.2.2.2.1 x.2.2.2.2.2) (λ x=>vs x.1 x.2.1 x.2.2.1 x.2.2.2.1 x.2.2.2.2.1 x.2.2.2.2.2) (λ x=>Ms x.1 x.2.1 x.2.2.1 x.2.2.2.1 x.2.2.2.2.1 x.2.2.2.2.2) ts τ (a,b,c,d,e,f) he hp λ⟨a,b,c,d,e,f⟩ h ih=>step a b c d e f h λ a' b' c' d' e' f' h1 h2=>ih (a',b',c',d',e',f') h1 h2
theorem AD {L:Lib} {Q:Tm->Mem->Prop} {c:BI} {k:List It} {tm:Tm} {M:Mem} (h:fT (va 0 tm) λ tm=>fM (mv M) λ M=>XK L Q 500 (.code c::k) tm M):AA L (.code c::k) tm M Q:=by
 rw[TI,I8]at h;exact iI (aK h)
end Go.c5

namespace Go.c5
variable {L:Lib}
def B8 (N:Nat):AP->Bool
 | .t n=>Nat.blt n N
 | .c _=>true
def V4 (N:Nat):DY->Bool
 | .b7 x=>B8 N x
 | .s9 _ _=>true
 | .pick c a b=>B8 N c&&(B8 N a&&B8 N b)
 | .bin _ x y=>B8 N x&&B8 N y
 | .beq _ x y=>B8 N x&&B8 N y
 | .un _ x=>B8 N x
 | .conv _ x=>B8 N x
 | .box _ x=>B8 N x
 | .alloc _ _=>true
 | .build _ ps=>ps.all λ p=>B8 N p.2.2
 | .c7 _ _ ps=>ps.all (B8 N)
 | .a6 x _=>B8 N x
 | .nc x _ _ _=>B8 N x
 | .a5 _ _ x i=>B8 N x&&B8 N i
 | .idx _ _ _ x i=>B8 N x&&B8 N i
 | .ld _ _ x=>B8 N x
 | .sn _ _ x=>B8 N x
 | .st _ x v=>B8 N x&&B8 N v
 | .mk _ _ _ _ l c=>B8 N l&&B8 N c
 | .fg _ x lo hi=>B8 N x&&((lo.all (B8 N))&&(hi.all (B8 N)))
 | .ext x _=>B8 N x
 | .len x=>B8 N x
 | .mm _ xs=>xs.all (B8 N)
 | .app _ _ _ x y=>B8 N x&&B8 N y
 | .oa _ x y=>B8 N x&&B8 N y
 | .call _ xs=>xs.all (B8 N)
 | .e9 _ xs=>xs.all (B8 N)
 | .rh _ x=>B8 N x
 | .fy _ x=>B8 N x
 | .bad=>true
 | .su x=>B8 N x
 | .er x=>B8 N x
 | .nb _ _ _ x y=>B8 N x&&B8 N y
 | .nw _ _ _ x y=>B8 N x&&B8 N y
 | .pd _ _ xs=>xs.all (B8 N)
 | .qg _ x=>B8 N x
 | .m9 x xs=>B8 N x&&xs.all (B8 N)
 | .l9 _ xs=>xs.all (B8 N)
 | .o9 _ _ xs=>xs.all (B8 N)
 | .bg _ _ xs=>xs.all (B8 N)
 | .qh _ _ x y=>B8 N x&&B8 N y
 | .na _ _ x v=>B8 N x&&B8 N v
 | .dj _ _ _ x y=>B8 N x&&B8 N y
def UQ (N:Nat) (a:AI):Bool:=(a.dst.all λ d=>Nat.blt d N)&&((a.guard.all λ g=>Nat.blt g.1 N)&&V4 N a.op)
def HV (N:Nat):BI->Bool
 | .skip=>true
 | .ops l _=>l.all (UQ N)
 | .dr c ts _=>HV N c&&ts.all λ t=>Nat.blt t N
 | .scope c=>HV N c
 | .seq a b=>HV N a&&HV N b
 | .cond c a b=>B8 N c&&(HV N a&&HV N b)
 | .block _ c=>HV N c
 | .loop c=>HV N c
 | .exit _=>true
 | .ret=>true
def QL (N:Nat):It->Bool
 | .code c=>HV N c
 | .jx ts _=>ts.all λ t=>Nat.blt t N
 | .e8 _=>true
 | .lp c=>HV N c
structure Gh (N:Nat) (G T T':Tm):Prop where
 lo : ∀ j,j<N->g6 T' j=g6 T j
 hi : ∀ j,N<=j->g6 T' j=g6 G j
variable {N:Nat} {G:Tm}
theorem RB {a b:Nat}:Nat.blt a b=true↔a<b:=by simp [Nat.blt];omega
theorem Gh.ev {st:St} {T':Tm} {o:AH} (h:Gh N G st.tm T') {x:AP} (hx:B8 N x=true):St.ev ⟨T',o⟩ x=st.ev x:=by
 cases x with
 | t n=>exact h.lo n (RB.1 hx)
 | c v=>rfl
theorem RS {f g:AP->AV} {xs:List AP} (h : ∀ x,B8 N x=true->f x=g x) (hx:xs.all (B8 N)=true):xs.map f=xs.map g:=by
 apply List.map_congr_left;intro x hm;exact h x (List.all_eq_true.1 hx x hm)
theorem Ui {C:Cl} {b9:List Nat} {ρ ρ':AP->AV} {own:AH} (h : ∀ x,B8 N x=true->ρ' x=ρ x) : ∀ (op:DY),V4 N op=true->c9 C b9 ρ' own op=c9 C b9 ρ own op:=by
 intro op j8;cases op;case build zero ps =>
  have:(ps.map λ p=>(p.1,p.2.1,ρ' p.2.2))=ps.map λ p=>(p.1,p.2.1,ρ p.2.2):=by
   apply List.map_congr_left;intro p hm;rw[h _ (List.all_eq_true.1 j8 p hm)]
  simp only[c9,this]
 case c7 s a7 ps =>
  have:ps.mapM (λ x=>cellsOf (ρ' x))=ps.mapM (λ x=>cellsOf (ρ x)):=by
   have sd:ps.all (B8 N)=true:=j8;clear j8;induction ps with
   | nil=>rfl
   | cons p r ih =>
    simp only[List.all_cons,Bool.and_eq_true]at sd;simp only[List.mapM_cons,h _ sd.1,ih sd.2]
  simp only[c9,this]
 case mm m xs=>simp only[c9,RS h j8]
 case call f xs=>simp only[c9,RS h j8]
 case e9 f xs=>simp only[c9,RS h j8]
 case pd p f xs =>
  have:xs.mapM (λ x=>GM (ρ' x))=xs.mapM (λ x=>GM (ρ x)):=by
   have sd:xs.all (B8 N)=true:=j8;clear j8;induction xs with
   | nil=>rfl
   | cons p r ih =>
    simp only[List.all_cons,Bool.and_eq_true]at sd;simp only[List.mapM_cons,h _ sd.1,ih sd.2]
  simp only[c9,this]
 case l9 f xs=>simp only[c9,RS h j8]
 case o9 s f xs=>simp only[c9,RS h j8]
 case bg s f xs=>simp only[c9,RS h j8]
 case m9 x xs =>
  simp only[V4,Bool.and_eq_true]at j8;simp only[c9,RS h j8.2,h _ j8.1]
 case fg a7 x lo hi =>
  simp only[V4,Bool.and_eq_true]at j8;obtain ⟨h1,h2,h3⟩:=j8;cases lo<;>cases hi<;>simp only[Option.all_some,Option.all_none]at h2 h3<;>simp only[c9,h _ h1,h _,h2,h3]
 all_goals (simp only[V4,Bool.and_eq_true]at j8;simp only[c9,h _,j8])
theorem Gh.dst {T T':Tm} (h:Gh N G T T') {d:Nat} (hd:d<N) (v:AV):Gh N G (je T d v) (je T' d v):=by
 constructor
 ·intro j hj
  rw[WT,WT,h.lo j hj]
 ·intro j hj
  rw[WT,h.hi j hj,if_neg (by omega)]
theorem Gh.oc {T T':Tm} {o:AH} (h:Gh N G T T') {d:Option Nat} (hd:(d.all λ d=>Nat.blt d N)=true) (v:AV):((⟨T',o⟩:St).dst d v).own=((⟨T,o⟩:St).dst d v).own/\Gh N G ((⟨T,o⟩:St).dst d v).tm ((⟨T',o⟩:St).dst d v).tm:=by
 cases d with
 | none=>exact ⟨rfl,h⟩
 | some d=>exact ⟨rfl,h.dst (RB.1 hd) v⟩
theorem AgF {C:Cl} {a:AI} (ha:UQ N a=true) {T T':Tm} {o:AH} (h:Gh N G T T') {s':St} (hs:C8 C a ⟨T',o⟩=some s') : ∃ s,C8 C a ⟨T,o⟩=some s/\s'.own=s.own/\Gh N G s.tm s'.tm:=by
 simp only[UQ,Bool.and_eq_true]at ha;obtain ⟨h1,h2,h3⟩:=ha;have hg:FE ⟨T',o⟩ a.guard=FE ⟨T,o⟩ a.guard:=by
  cases hgg:a.guard with
  | none=>rfl
  | some g =>
   rw[hgg]at h2;simp only[FE,h.lo _ (RB.1 h2)]
 have he:=Ui (C:=C) (b9:=a.b9) (own:=o) (ρ:=St.ev ⟨T,o⟩) (ρ':=St.ev ⟨T',o⟩) (λ x hx=>Gh.ev (st:=⟨T,o⟩) h hx) a.op h3;unfold C8 at hs ⊢;rw[hg,he]at hs;cases Cm:FE ⟨T,o⟩ a.guard with
 | none=>rw[Cm]at hs;cases hs
 | some b =>
  rw[Cm]at hs;cases b with
  | false =>
   simp only[Option.some.injEq]at hs ⊢;subst hs;exact ⟨_,rfl,h.oc h1 _⟩
  | true =>
   simp only at hs ⊢;cases Pc:c9 C a.b9 (St.ev ⟨T,o⟩) o a.op with
   | none=>rw[Pc]at hs;cases hs
   | some e =>
    rw[Pc]at hs;simp only[Option.map_some,Option.some.injEq]at hs ⊢;subst hs;refine ⟨_,rfl,?_⟩;cases e with
    | val v=>exact h.oc h1 v
    | new s b v=>exact ⟨rfl,(h.oc (o:=o) h1 _).2⟩
    | ye s b v=>exact ⟨rfl,(h.oc (o:=o) h1 _).2⟩
    | bu v o'=>exact ⟨rfl,(h.oc (o:=o) h1 _).2⟩
    | n6 s x=>exact ⟨rfl,(h.oc (o:=o) h1 _).2⟩
    | sv s x v=>exact ⟨rfl,(h.oc (o:=o) h1 _).2⟩
theorem uD {C:Cl} : ∀ {l:List AI},l.all (UQ N)=true -> ∀ {T T':Tm} {o:AH},Gh N G T T' -> ∀ {s':St},DB C l ⟨T',o⟩=some s' -> ∃ s,DB C l ⟨T,o⟩=some s/\s'.own=s.own/\Gh N G s.tm s'.tm
 | [],_,T,T',o,h,s',hs=>by
  simp only[DB,Option.some.injEq]at hs;subst hs;exact ⟨_,rfl,rfl,h⟩
 | a::l,ha,T,T',o,h,s',hs=>by
  simp only[List.all_cons,Bool.and_eq_true]at ha;simp only[DB]at hs;cases h1:C8 C a ⟨T',o⟩ with
  | none=>rw[h1]at hs;cases hs
  | some s1 =>
   rw[h1]at hs;obtain ⟨s2,e1,e2,e3⟩:=AgF ha.1 h h1;obtain ⟨T1,o1⟩:=s1;obtain ⟨T2,o2⟩:=s2;simp only at e2 e3;subst e2;obtain ⟨s3,f1,f2,f3⟩:=uD ha.2 e3 hs;exact ⟨s3,by simp only[DB,e1,f1],f2,f3⟩
theorem VK {id:Nat} : ∀ {k k':List It},k.all (QL N)=true->DW id k=some k'->k'.all (QL N)=true
 | [],_,_,h=>by simp [DW]at h
 | it::k,k',hk,h=>by
  simp only[List.all_cons,Bool.and_eq_true]at hk;cases it with
  | e8 i =>
   simp only[DW]at h;split at h
   ·cases h;exact hk.2
   ·exact VK hk.2 h
  | code c=>simp only[DW]at h;exact VK hk.2 h
  | jx a b=>simp only[DW]at h;exact VK hk.2 h
  | lp c=>simp only[DW]at h;exact VK hk.2 h
theorem IH {C:Cl} : ∀ (n:Nat) {k:List It},k.all (QL N)=true -> ∀ {T T':Tm} {o:AH},Gh N G T T' -> ∀ {s':St},run C n k ⟨T',o⟩=some s' -> ∃ s,run C n k ⟨T,o⟩=some s/\s'.own=s.own/\Gh N G s.tm s'.tm
 | 0,k,_,T,T',o,_,s',hs=>by simp [run]at hs
 | n+1,[],_,T,T',o,h,s',hs=>by
  simp only[run,Option.some.injEq]at hs ⊢;subst hs;exact ⟨_,rfl,rfl,h⟩
 | n+1,.e8 _::k,hk,T,T',o,h,s',hs=>by
  simp only[List.all_cons,Bool.and_eq_true]at hk;simp only[run]at hs ⊢;exact IH n hk.2 h hs
 | n+1,.jx ts ss::k,hk,T,T',o,h,s',hs=>by
  simp only[List.all_cons,Bool.and_eq_true]at hk;simp only[run]at hs ⊢;refine IH n hk.2 ⟨λ j hj => ?_,λ j hj => ?_⟩ hs
  ·rw[UB,UB,h.lo j hj]
  ·rw[UB,h.hi j hj,if_neg]
   intro hc;have:=List.all_eq_true.1 hk.1 j (by simpa using hc)
   have:=RB.1 this
   omega
 | n+1,.lp c::k,hk,T,T',o,h,s',hs=>by
  simp only[run]at hs ⊢;have gx:=hk;simp only[List.all_cons,Bool.and_eq_true]at hk;exact IH n (by simp only[List.all_cons,Bool.and_eq_true];exact ⟨hk.1,hk.1,hk.2⟩) h hs
 | n+1,.code c::k,hk,T,T',o,h,s',hs=>by
  simp only[List.all_cons,Bool.and_eq_true]at hk;obtain ⟨hc,hk⟩:=hk;cases c with
  | skip=>simp only[run]at hs ⊢;exact IH n hk h hs
  | ops l d =>
   simp only[run]at hs ⊢;cases h1:DB C l ⟨T',o⟩ with
   | none=>rw[h1]at hs;cases hs
   | some s1 =>
    rw[h1]at hs;obtain ⟨s2,e1,e2,e3⟩:=uD (show l.all (UQ N)=true from hc) h h1;obtain ⟨T1,o1⟩:=s1;obtain ⟨T2,o2⟩:=s2;simp only at e2 e3;subst e2;rw[e1];exact IH n hk e3 hs
  | dr c ts ss =>
   simp only[run]at hs ⊢;simp only[QL,HV,Bool.and_eq_true]at hc;exact IH n (by simp only[List.all_cons,Bool.and_eq_true];exact ⟨hc.1,hc.2,hk⟩) h hs
  | scope c =>
   simp only[run]at hs ⊢;exact IH n (by simp only[List.all_cons,Bool.and_eq_true];exact ⟨hc,hk⟩) h hs
  | seq a b =>
   simp only[run]at hs ⊢;simp only[QL,HV,Bool.and_eq_true]at hc;exact IH n (by simp only[List.all_cons,Bool.and_eq_true];exact ⟨hc.1,hc.2,hk⟩) h hs
  | cond x a b =>
   simp only[QL,HV,Bool.and_eq_true]at hc;simp only[run,Gh.ev (st:=⟨T,o⟩) h hc.1]at hs ⊢;cases hx:St.ev ⟨T,o⟩ x<;>rw[hx]at hs<;>try (simp at hs;done)
   rename_i q;cases q
   ·exact IH n (by simp only[List.all_cons,Bool.and_eq_true];exact ⟨hc.2.2,hk⟩) h hs
   ·exact IH n (by simp only[List.all_cons,Bool.and_eq_true];exact ⟨hc.2.1,hk⟩) h hs
  | block id c =>
   simp only[run]at hs ⊢;exact IH n (by simp only[List.all_cons,Bool.and_eq_true];exact ⟨hc,rfl,hk⟩) h hs
  | loop c =>
   simp only[run]at hs ⊢;exact IH n (by simp only[List.all_cons,Bool.and_eq_true];exact ⟨hc,hc,hk⟩) h hs
  | exit id =>
   simp only[run]at hs ⊢;cases he:DW id k with
   | none=>rw[he]at hs;cases hs
   | some k' =>
    rw[he]at hs;exact IH n (VK hk he) h hs
  | ret =>
   simp only[run,Option.some.injEq]at hs ⊢;subst hs;exact ⟨_,rfl,rfl,h⟩
def GC (N:Nat):Tm->Tm
 | []=>[]
 | (i,v)::r=>(N+i,v)::GC N r
def gh (N:Nat):Tm->Tm
 | []=>[]
 | (i,v)::r=>bif Nat.ble N i then (Nat.sub i N,v)::gh N r else gh N r
theorem iD (N j:Nat) : ∀ T:Tm,g6 (GC N T) (N+j)=g6 T j
 | []=>rfl
 | (i,v)::r=>by
  have ih:=iD N j r;simp only[GC,g6,ih];by_cases h:j=i
  ·simp [h]
  ·rw[if_neg h,if_neg (by omega)]
theorem iE {N j:Nat} (hj:j<N) : ∀ T:Tm,g6 (GC N T) j = .any
 | []=>rfl
 | (i,v)::r=>by
  simp only[GC,g6,iE hj r];rw[if_neg (by omega)]
theorem iB (N j:Nat) : ∀ T:Tm,g6 (gh N T) j=g6 T (N+j)
 | []=>rfl
 | (i,v)::r=>by
  have ih:=iB N j r;simp only[gh];cases h:Nat.ble N i
  ·have h1 : ¬ N<=i:=λ e=>by rw[Nat.ble_eq_true_of_le e]at h;cases h
   simp only[cond,g6,ih];rw[if_neg (by omega)]
  ·have h1:=Nat.le_of_ble_eq_true h
   simp only[cond,g6,ih];by_cases h2:j=i-N
   ·rw[if_pos (show j=Nat.sub i N from h2),if_pos (by omega)]
   ·rw[if_neg (show ¬ j=Nat.sub i N from h2),if_neg (by omega)]
def K8 (f:AV->AV):Tm->Tm
 | []=>[]
 | (i,v)::r=>(i,f v)::K8 f r
theorem JM {f:AV->AV} (hf:f .any = .any) (j:Nat) : ∀ T:Tm,g6 (K8 f T) j=f (g6 T j)
 | []=>hf.symm
 | (i,v)::r=>by
  simp only[K8,g6,JM hf j r];by_cases h:j=i<;>simp [h]
theorem dE (f:AV->AV) : ∀ (i:Nat) (vs:List AV),CY i (vs.map f)=K8 f (CY i vs)
 | _,[]=>rfl
 | i,v::r=>by simp only[List.map_cons,CY,K8,dE f (i+1) r]
theorem WR (j:Nat) (b:Tm) : ∀ a:Tm,((a.any λ p=>p.1 == j)=true/\g6 (a++b) j=g6 a j)\/((a.any λ p=>p.1 == j)=false/\g6 (a++b) j=g6 b j)
 | []=>Or.inr ⟨rfl,rfl⟩
 | (i,v)::r=>by
  by_cases h:j=i
  ·subst h
   exact Or.inl (by simp [g6])
  ·have h' : ¬ i=j:=λ e=>h e.symm
   rcases WR j b r with ⟨h1,h2⟩|⟨h1,h2⟩
   ·exact Or.inl ⟨by rw[List.any_cons,h1,Bool.or_true],by simp only[List.cons_append,g6,if_neg h,h2]⟩
   ·exact Or.inr ⟨by rw[List.any_cons,h1,Bool.or_false];simpa using h',by simp only[List.cons_append,g6,if_neg h,h2]⟩
theorem dD (j:Nat) : ∀ (i:Nat) (vs:List AV),((CY i vs).any λ p=>p.1 == j)=true->j<i+vs.length
 | _,[],h=>by simp [CY]at h
 | i,v::r,h=>by
  simp only[CY,List.any_cons,Bool.or_eq_true,beq_iff_eq]at h;rcases h with h|h
  ·simp;omega
  ·have:=dD j (i+1) r h
   simp;omega
theorem iC (j:Nat) : ∀ (i:Nat) (vs:List AV),((CY i vs).any λ p=>p.1 == j)=false->g6 (CY i vs) j = .any
 | _,[],_=>rfl
 | i,v::r,h=>by
  simp only[CY,List.any_cons,Bool.or_eq_false_iff,beq_eq_false_iff_ne]at h;simp only[CY,g6];rw[if_neg λ e=>h.1 e.symm,iC j (i+1) r h.2]
theorem KB (σ:FH):BH σ .any = .any:=rfl
def QS (tm:Tm):List IY->Option (List AV)
 | []=>some []
 | .tmp t::r=>match IG (tg tm t),QS tm r with
  | some v,some vs=>some (v::vs)
  | _,_=>none
 | .cell _ _ _::_=>none
def WC (N:Nat):List IY->Bool
 | []=>true
 | .tmp t::r=>Nat.blt t N&&WC N r
 | .cell _ _ _::_=>false
def jB (N:Nat) (fn:AFn) (tm:Tm) (K:AV->Mem->Prop) (z9:Tm) (M':Mem):Prop:=gh N z9=tm /\ ∃ rs,QS z9 fn.res=some rs/\K (HP rs) M'
theorem AfW {σ:FH} {v u:AV} (h:IG v=some u):u=v/\BH σ v=BV σ v/\IG (BH σ v)=some (BH σ v):=by
 cases v<;>simp [IG]at h<;>subst h<;>exact ⟨rfl,rfl,rfl⟩
theorem fR {σ:FH} {z9:Tm} {M:Mem} {s s':St} (hr:RX σ z9 M s') (nk : ∀ j,j<N->g6 s'.tm j=g6 s.tm j) : ∀ {res:List IY} {rs:List AV},WC N res=true->QS z9 res=some rs->res.mapM (E5 s)=some (rs.map (BV σ)) /\ ∀ v∈rs,BH σ v=BV σ v
 | [],rs,_,h=>by
  simp only[QS,Option.some.injEq]at h;subst h;exact ⟨rfl,by simp⟩
 | .cell _ _ _::_,_,_,h=>by simp [QS]at h
 | .tmp t::r,rs,hl,h=>by
  simp only[WC,Bool.and_eq_true]at hl;simp only[QS]at h;cases h1:IG (tg z9 t) with
  | none=>rw[h1]at h;simp at h
  | some v =>
   cases h2:QS z9 r with
   | none=>rw[h1,h2]at h;simp at h
   | some vs =>
    rw[h1,h2]at h;simp only[Option.some.injEq]at h;subst h;obtain ⟨i1,i2⟩:=fR hr nk hl.2 h2;obtain ⟨rfl,j2,j3⟩:=AfW (σ:=σ) h1;have:g6 s.tm t=BH σ (tg z9 t):=by
     rcases hr.tm t with e|e
     ·rw[e]at h1;cases h1
     ·rw[<-nk t (RB.1 hl.1),e]
    refine ⟨?_,?_⟩
    ·rw[j2]at j3 this
     simp only[List.mapM_cons,E5,this,j3,i1,List.map_cons];rfl
    ·intro v hv
     simp only[List.mem_cons]at hv;rcases hv with rfl|hv
     ·exact j2
     ·exact i2 v hv
theorem sI {σ:FH} {rs:List AV} (h : ∀ v∈rs,BH σ v=BV σ v):HP (rs.map (BV σ))=BH σ (HP rs):=by
 match rs,h with
 | [],_=>rfl
 | [v],h=>exact (h v (by simp)).symm
 | _::_::_,_=>rfl
theorem GF {f:Nat} {fn:AFn} {vs:List AV} {tm:Tm} {M:Mem} {K:AV->Mem->Prop} (N:Nat) (hL:L f=some fn) (hp:Nat.beq vs.length fn.z8=true) (hN:(Nat.ble fn.z8 N&&(HV N fn.body&&WC N fn.res))=true)
  (h:AA L [.code fn.body] (CY 0 vs++GC N tm) M (jB N fn tm K)):A9 L f vs tm M K:=by
 intro σ own hs;simp only[Bool.and_eq_true]at hN;obtain ⟨n1,n2,n3⟩:=hN;have n1:=Nat.le_of_ble_eq_true n1;have hp:vs.length=fn.z8:=Nat.eq_of_beq_eq_true hp;have Ma:RX σ (CY 0 vs++GC N tm) M ⟨K8 (BH σ) (CY 0 vs++GC N tm),own⟩:=⟨λ j=>Or.inr (by rw[JL];exact JM (KB σ) j _),hs⟩;obtain ⟨n,c,s',hr,σ',z9,M',hR,hg,rs,Ly,hk⟩:=h σ _ Ma;have Kp:Gh N (K8 (BH σ) (GC N tm)) (CY 0 (vs.map (BH σ))) (K8 (BH σ) (CY 0 vs++GC N tm)):=by
  constructor
  ·intro j hj
   rw[dE,JM (KB σ),JM (KB σ)];rcases WR j (GC N tm) (CY 0 vs) with ⟨_,e⟩|⟨hn,e⟩
   ·rw[e]
   ·rw[e,iE hj,iC j 0 vs hn]
  ·intro j hj
   rw[JM (KB σ),JM (KB σ)];rcases WR j (GC N tm) (CY 0 vs) with ⟨hn,e⟩|⟨_,e⟩
   ·have:=dD j 0 vs hn
    omega
   ·rw[e]
 obtain ⟨s,r1,r2,r3⟩:=IH n (by simp [QL,n2]) Kp hr;obtain ⟨i1,i2⟩:=fR (s:=s) hR r3.lo n3 Ly;refine ⟨HP rs,s.own,σ',M',GG.intro hL (by simpa using hp) ⟨n,c,s,r1,?_,rfl⟩,?_,?_,hk⟩
 ·rw[i1,Option.map_some,sI i2]
 ·rw[<-r2];exact hR.sat
 ·intro j
  have e1:tg tm j=tg z9 (N+j):=by rw[JL,JL,<-hg,iB]
  rcases hR.tm (N+j) with e|e
  ·rw[e1,e];rfl
  ·rw[e1,<-e,r3.hi (N+j) (by omega),JM (KB σ),iD,<-JL,e1]
theorem SU {α:Type} {enc:α->List AV} {l:List α} {i:Nat} {vs:List AV} {K:List (List AV)->Prop} (n:Nat) (e:α) (hn:i=n) (he:vs=enc e) (hz : ∀ x,(enc x).length=vs.length) (hi:n<l.length) (h:K ((l.set n e).map enc)):A6 (l.map enc) i 0 vs K:=by
 subst hn;exact xQ e he hz hi h
theorem G5 {x:Int} {len:Nat} {K:Nat->Nat->Prop} (h:Nat) (hx:x=h) (hl:h<=len) (hk:K 0 h):BO none (some x) len K:=⟨0,h,rfl,⟨by omega,by omega,by omega⟩,by omega,hk⟩
theorem wM {x:Int} {len:Nat} {K:Nat->Nat->Prop} (a:Nat) (hx:x=a) (hl:a<=len) (hk:K a len):BO (some x) none len K:=⟨a,len,⟨by omega,by omega⟩,rfl,by omega,hk⟩
end Go.c5

namespace Go.c5
abbrev BB:Nat:=4294967296
@[irreducible] def EK (a b : Nat) : Nat := (a + 18446744073709551616 - b) % 18446744073709551616
theorem SD (a b:Nat):EK a b=(a+18446744073709551616-b)%18446744073709551616:=by unfold EK;rfl
def val:List Nat->Nat
 | []=>0
 | d::l=>d+4294967296*val l
def A1 (l:List Nat):Prop := ∀ d∈l,d<4294967296
def dg (n:Nat):List Nat:=if h:n=0 then [] else n%4294967296::dg (n/4294967296)
termination_by n
decreasing_by omega
theorem EY:dg 0=[]:=by rw[dg];simp
theorem IM {n:Nat} (h:n≠0):dg n=n%4294967296::dg (n/4294967296):=by rw[dg];simp [h]
theorem IJ:val []=0:=rfl
theorem PZ (d:Nat) (l:List Nat):val (d::l)=d+4294967296*val l:=rfl
theorem B1 (n:Nat):val (dg n)=n:=by
 induction n using Nat.strongRecOn with
 | ind n ih =>
  by_cases h:n=0
  ·subst h;rw[EY];rfl
  ·rw[IM h,PZ,ih _ (by omega)]
   omega
theorem DU (n:Nat):A1 (dg n):=by
 induction n using Nat.strongRecOn with
 | ind n ih =>
  by_cases h:n=0
  ·subst h;rw[EY];intro d hd;cases hd
  ·rw[IM h]
   intro d hd;rcases List.mem_cons.1 hd with rfl|hd
   ·omega
   ·exact ih _ (by omega) d hd
theorem A1.tail {d:Nat} {l:List Nat} (h:A1 (d::l)):A1 l:=λ x hx=>h x (List.mem_cons_of_mem _ hx)
theorem A1.head {d:Nat} {l:List Nat} (h:A1 (d::l)):d<4294967296:=h d List.mem_cons_self
theorem A1.at {l:List Nat} (h:A1 l) {i d:Nat} (hd:l[i]? = some d):d<4294967296:=h d (zM hd)
theorem A1.take {l:List Nat} (h:A1 l) (n:Nat):A1 (l.take n):=λ x hx=>h x (List.mem_of_mem_take hx)
theorem A1.drop {l:List Nat} (h:A1 l) (n:Nat):A1 (l.drop n):=λ x hx=>h x (List.mem_of_mem_drop hx)
theorem S7:A1 []:=λ_ h=>by cases h
theorem A1.append {a b:List Nat} (h:A1 a) (h':A1 b):A1 (a++b):=λ x hx=>(List.mem_append.1 hx).elim (h x) (h' x)
theorem HB {d:Nat} (h:d<4294967296):A1 [d]:=λ x hx=>by simp at hx;omega
theorem A1.set {l:List Nat} (h:A1 l) (i:Nat) {d:Nat} (hd:d<4294967296):A1 (l.set i d):=λ x hx=>by
 rcases List.mem_or_eq_of_mem_set hx with h1|h1
 ·exact h x h1
 ·omega
theorem IO (n:Nat):A1 (List.replicate n 0):=λ x hx=>by rw[(List.mem_replicate.1 hx).2];omega
theorem UD (a b:List Nat):val (a++b)=val a+4294967296^a.length*val b:=by
 induction a with
 | nil=>simp [val]
 | cons d l ih=>rw[List.cons_append,PZ,PZ,ih,List.length_cons,Nat.pow_succ];grind
theorem N7 (l:List Nat) (v:Nat):val (l++[v])=val l+4294967296^l.length*v:=by
 rw[UD];simp [val]
theorem E0 {l:List Nat} (h:A1 l):val l<4294967296^l.length:=by
 induction l with
 | nil=>simp [val]
 | cons d l ih =>
  have h1:=ih h.tail;have h2:=h.head;rw[PZ,List.length_cons,Nat.pow_succ];omega
theorem D8 {l:List Nat} {i v:Nat} (h:l[i]? = some v):val (l.take (i+1))=val (l.take i)+4294967296^i*v:=by
 have hi:=(zS h).1;rw[List.take_add_one,h,Option.toList_some,N7,List.length_take,Nat.min_eq_left (by omega)]
theorem JN (l:List Nat) (i:Nat) (h:i<=l.length):val l=val (l.take i)+4294967296^i*val (l.drop i):=by
 have:=UD (l.take i) (l.drop i)
 rw[List.take_append_drop,List.length_take,Nat.min_eq_left h]at this;exact this
theorem Z6 (n:Nat):val (List.replicate n 0)=0:=by
 induction n with
 | zero=>rfl
 | succ n ih=>rw[List.replicate_succ,PZ,ih]
theorem Td {l:List Nat} (h:A1 l) (ht:l=[] \/ ∃ d,l[l.length-1]? = some d/\d≠0):dg (val l)=l:=by
 induction l with
 | nil=>exact EY
 | cons d l ih =>
  have h1:=h.head;by_cases hl:l=[]
  ·subst hl
   rcases ht with ht|⟨x,hx,si⟩
   ·cases ht
   ·simp at hx
    subst hx;rw[PZ,IJ,IM (by omega),show (d+4294967296*0)/4294967296=0 by omega,EY,show (d+4294967296*0)%4294967296=d by omega]
  ·have nm : ∃ x,l[l.length-1]? = some x/\x≠0:=by
    rcases ht with ht|⟨x,hx,si⟩
    ·cases ht
    ·refine ⟨x,?_,si⟩
     have:l.length≠0:=λ e=>hl (List.eq_nil_of_length_eq_zero e)
     rw[List.length_cons,show l.length+1-1=(l.length-1)+1 by omega,List.getElem?_cons_succ]at hx;exact hx
   have Nc:=ih h.tail (Or.inr nm);have qt:val l≠0:=by
    intro e;rw[e,EY]at Nc;exact hl Nc.symm
   rw[PZ,IM (by omega),show (d+4294967296*val l)/4294967296=val l by omega,Nc,show (d+4294967296*val l)%4294967296=d by omega]
theorem F8 {l:List Nat} (h:A1 l) {n:Nat} (hn:n<=l.length) (hz : ∀ i,n<=i->i<l.length->l[i]? = some 0) (ht:n=0 \/ ∃ d,l[n-1]? = some d/\d≠0):l.take n=dg (val l):=by
 have hv:val l=val (l.take n):=by
  have h0:l.drop n=List.replicate (l.length-n) 0:=by
   apply List.ext_getElem?;intro i;rw[List.getElem?_drop,List.getElem?_replicate];by_cases hi:n+i<l.length
   ·rw[hz (n+i) (by omega) hi,if_pos (by omega)]
   ·rw[List.getElem?_eq_none (by omega),if_neg (by omega)]
  rw[JN l n hn,h0,Z6];omega
 rw[hv];refine (Td (h.take n) ?_).symm;rcases ht with rfl|⟨d,hd,wy⟩
 ·exact Or.inl (by simp)
 ·have k7:=(zS hd).1
  by_cases ru:n=0
  ·subst ru;exact Or.inl (by simp)
  ·refine Or.inr ⟨d,?_,wy⟩
   rw[List.length_take,Nat.min_eq_left hn,List.getElem?_take,if_pos (by omega)];exact hd
theorem OO {n k:Nat}:(dg n).length<=k↔n<4294967296^k:=by
 induction k generalizing n with
 | zero =>
  by_cases h:n=0
  ·subst h;simp [EY]
  ·rw[IM h];simp;omega
 | succ k ih =>
  by_cases h:n=0
  ·subst h;simp [EY];exact Nat.pos_of_ne_zero (by simp)
  ·rw[IM h,List.length_cons,Nat.succ_le_succ_iff,ih,Nat.pow_succ]
   rw[Nat.div_lt_iff_lt_mul (by omega)]
theorem ES {l:List Nat} (h:A1 l):(dg (val l)).length<=l.length:=OO.2 (E0 h)
theorem bR {n:Nat} (h:n≠0) : ∃ d,(dg n)[(dg n).length-1]? = some d/\d≠0:=by
 induction n using Nat.strongRecOn with
 | ind n ih =>
  rw[IM h];by_cases h2:n/4294967296=0
  ·rw[h2,EY]
   exact ⟨n%4294967296,by simp,by omega⟩
  ·obtain ⟨d,hd,wy⟩:=ih _ (by omega) h2
   refine ⟨d,?_,wy⟩;have hl:(dg (n/4294967296)).length≠0:=λ e=>by rw[List.eq_nil_of_length_eq_zero e]at hd;simp at hd
   rw[List.length_cons,show (dg (n/4294967296)).length+1-1=(dg (n/4294967296)).length-1+1 by omega,List.getElem?_cons_succ];exact hd
theorem bN {n:Nat}:dg n=[]↔n=0:=by
 constructor
 ·intro h
  by_cases h0:n=0
  ·exact h0
  ·rw[IM h0]at h;cases h
 ·rintro rfl;exact EY
theorem U3 {n:Nat} (h:n≠0):1<=(dg n).length:=by rw[IM h];simp
theorem Agi {o:List Nat} {i v:Nat} (h:i<o.length):(o.set i v).take (i+1)=o.take i++[v]:=by
 rw[List.take_add_one,List.getElem?_set_self h,List.take_set_of_le (Nat.le_refl i)];rfl
theorem FS {o:List Nat} {i v:Nat} (h:i<o.length):val ((o.set i v).take (i+1))=val (o.take i)+4294967296^i*v:=by
 rw[Agi h,N7,List.length_take,Nat.min_eq_left (by omega)]
theorem PB (V p t:Nat):V+p*(t%4294967296)+p*4294967296*(t/4294967296)=V+p*t:=by
 have h:=Nat.mod_add_div t 4294967296;have:p*(t%4294967296)+p*4294967296*(t/4294967296)=p*t:=by
  rw[Nat.mul_assoc,<-Nat.mul_add,h]
 omega
theorem DC {l:List Nat} {n:Nat} (h:l.length<=n):val (l.take n)=val l:=by rw[List.take_of_length_le h]
theorem rW (i:Nat):1<=4294967296^i:=Nat.pos_of_ne_zero (by simp)
theorem G4 {l:List Nat} {i d:Nat} (h:l[i]? = some d):val (l.drop i)=d+4294967296*val (l.drop (i+1)):=by
 obtain ⟨hi,rfl⟩:=zS h;rw[List.drop_eq_getElem_cons hi,PZ]
theorem Z2 {a b:List Nat} (ha:A1 a) (hb:A1 b) (hl:a.length=b.length) {i:Nat} {x y:Nat} (hx:a[i]? = some x) (hy:b[i]? = some y) (he:a.drop (i+1)=b.drop (i+1)) (h:x<y):val a<val b:=by
 have hia:=(zS hx).1;have Pn:=(zS hy).1;rw[JN a i (by omega),JN b i (by omega),G4 hx,G4 hy,he];have h1:=E0 (ha.take i);rw[List.length_take,Nat.min_eq_left (by omega)]at h1;generalize val (b.drop (i+1))=r;generalize 4294967296^i=p at *;have:p*(x+4294967296*r)+p<=p*(y+4294967296*r):=by
  rw[<-Nat.mul_succ];exact Nat.mul_le_mul_left p (by omega)
 omega
theorem Z3 {o:List Nat} {k v old:Nat} (h:o[k]? = some old):val (o.set k v)+4294967296^k*old=val o+4294967296^k*v:=by
 have hk:=(zS h).1;have h1:val (o.set k v)=val (o.take k)+4294967296^k*(v+4294967296*val (o.drop (k+1))):=by
  rw[JN (o.set k v) k (by simp;omega),List.take_set_of_le (Nat.le_refl k),G4 (l:=o.set k v) (d:=v) (by rw[List.getElem?_set_self hk]),List.drop_set_of_lt (by omega)]
 have h2:val o=val (o.take k)+4294967296^k*(old+4294967296*val (o.drop (k+1))):=by
  rw[JN o k (by omega),G4 h]
 rw[h1,h2,Nat.mul_add,Nat.mul_add];omega
theorem WP {l:List Nat} (h:A1 l):l.take (dg (val l)).length=dg (val l):=by
 induction l with
 | nil=>rw[IJ,EY];rfl
 | cons d l ih =>
  have h1:=h.head;by_cases h0:val (d::l)=0
  ·rw[h0,EY];rfl
  ·rw[IM h0,PZ,show (d+4294967296*val l)/4294967296=val l by omega,show (d+4294967296*val l)%4294967296=d by omega,List.length_cons,List.take_succ_cons,ih h.tail]
theorem UE {a b:Nat} (h:(dg a).length<(dg b).length):a<b:=by
 have h1:a<4294967296^(dg a).length:=OO.1 (Nat.le_refl _);have h2 : ¬ b<4294967296^((dg b).length-1):=λ h3=>by have:=OO.2 h3;omega
 have h3:4294967296^(dg a).length<=4294967296^((dg b).length-1):=Nat.pow_le_pow_right (by omega) (by omega);omega
end Go.c5

namespace Go.c5
section
variable {K:AV->Prop} {a b:Nat} {k':IntKind}
theorem wrap_u32 (n:Nat):IntKind.u32.wrap (n:Int)=((n%4294967296:Nat):Int):=by rw[IntKind.wrap_u32];omega
theorem Ahf (n:Nat):IntKind.u64.wrap (n:Int)=((n%18446744073709551616:Nat):Int):=by
 simp [IntKind.wrap,IntKind.bits,IntKind.signed]
theorem FV (h:a+b<=18446744073709551615) (hk:K (.int .u64 ((a+b:Nat):Int))):AC .add .u64 (a:Int) .u64 (b:Int) K :=
 ⟨_,by simp only[DI,if_true];rw[IntWalk.u64_in _ (by omega)],by simpa using hk⟩
theorem IK (h:b<=a) (h2:a<=18446744073709551615) (hk:K (.int .u64 ((a-b:Nat):Int))):AC .sub .u64 (a:Int) .u64 (b:Int) K :=
 ⟨_,by simp only[DI,if_true];rw[IntWalk.u64_in _ (by omega)],by rw[show (a:Int)-b=((a-b:Nat):Int) by omega];exact hk⟩
theorem XD (h:b<=18446744073709551616) (hk:K (.int .u64 ((EK a b:Nat):Int))):AC .sub .u64 (a:Int) .u64 (b:Int) K :=
 W8 (v := .int .u64 (IntKind.u64.wrap ((a:Int)-b))) (by simp only[DI,if_true]) (by
  have e:IntKind.u64.wrap ((a:Int)-b)=((EK a b:Nat):Int):=by
   rw[SD];simp only[IntKind.wrap,IntKind.bits,IntKind.signed];simp;omega
  rw[e];exact hk)
theorem O5 (h:a*b<=18446744073709551615) (hk:K (.int .u64 ((a*b:Nat):Int))):AC .mul .u64 (a:Int) .u64 (b:Int) K :=
 ⟨_,by simp only[DI,if_true];rw[<-Int.natCast_mul,IntWalk.u64_in _ (by omega)],hk⟩
theorem XB (h:0<b) (h2:a<=18446744073709551615) (hk:K (.int .u64 ((a/b:Nat):Int))):AC .quo .u64 (a:Int) .u64 (b:Int) K:=by
 refine ⟨_,by simp only[DI];rw[if_pos ⟨trivial,by omega⟩],?_⟩;rw[IntWalk.u64_quo _ _ ⟨by omega,by omega,by omega⟩,<-Int.natCast_ediv];exact hk
theorem UK (h:0<b) (hk:K (.int .u64 ((a%b:Nat):Int))):AC .rem .u64 (a:Int) .u64 (b:Int) K:=by
 refine ⟨_,by simp only[DI];rw[if_pos ⟨trivial,by omega⟩],?_⟩;rw[IntWalk.rem_in _ _ (by omega),<-Int.natCast_emod];exact hk
theorem Agl {k:IntKind} {n:Nat} (hn:n<=k.bits):DI .shl k (a:Int) k' (n:Int)=some (.int k (k.wrap ((a*2^n:Nat):Int))):=by
 simp only[DI];rw[if_neg (by omega),Int.toNat_natCast,Nat.min_eq_left hn];simp
theorem Agn {k:IntKind} {n:Nat} (hn:n<=k.bits):DI .shr k (a:Int) k' (n:Int)=some (.int k ((a/2^n:Nat):Int)):=by
 simp only[DI];rw[if_neg (by omega),Int.toNat_natCast,Nat.min_eq_left hn,Int.fdiv_eq_ediv_of_nonneg _ (Int.le_of_lt (Int.pow_pos (by omega)))];simp
theorem aF {k:IntKind} {n:Nat} (hn:n<=k.bits) (hk:K (.int k (k.wrap ((a*2^n:Nat):Int)))):AC .shl k (a:Int) k' (n:Int) K:=⟨_,Agl hn,hk⟩
theorem O7 {k:IntKind} {n:Nat} (hn:n<=k.bits) (hk:K (.int k ((a/2^n:Nat):Int))):AC .shr k (a:Int) k' (n:Int) K:=⟨_,Agn hn,hk⟩
theorem OE (h:a<=4294967295) (hk:K (.int .u64 ((a*4294967296:Nat):Int))):AC .shl .u64 (a:Int) k' 32 K:=by
 refine aF (n:=32) (by decide) ?_;rw[Ahf,show a*2^32%18446744073709551616=a*4294967296 by omega];exact hk
theorem FC (hk:K (.int .u64 ((a/4294967296:Nat):Int))):AC .shr .u64 (a:Int) k' 32 K:=O7 (n:=32) (by decide) hk
theorem XC (hk:K (.int .u64 ((a/9223372036854775808:Nat):Int))):AC .shr .u64 (a:Int) k' 63 K:=O7 (n:=63) (by decide) hk
theorem xA (hk:K (.int .u64 ((a/4:Nat):Int))):AC .shr .u64 (a:Int) k' 2 K:=O7 (n:=2) (by decide) hk
theorem wZ (hk:K (.int .u32 ((a/65536:Nat):Int))):AC .shr .u32 (a:Int) k' 16 K:=O7 (n:=16) (by decide) hk
theorem xB (hk:K (.int .u32 ((a/256:Nat):Int))):AC .shr .u32 (a:Int) k' 8 K:=O7 (n:=8) (by decide) hk
theorem wY (hk:K (.int .u32 ((a/2:Nat):Int))):AC .shr .u32 (a:Int) k' 1 K:=O7 (n:=1) (by decide) hk
theorem eJ (w n:Nat):(BitVec.ofInt w (n:Int)).toNat=n%2^w:=by rw[BitVec.toNat_ofInt];omega
theorem Afs {n x y:Nat} (hx:x%2^n=0) (hy:y<2^n):x ||| y=x+y:=by
 have e:x=2^n*(x/2^n):=by have:=Nat.mod_add_div x (2^n);omega
 rw[e,<-Nat.two_pow_add_eq_or_of_lt hy]
theorem aE {k:IntKind} (n:Nat) (hx:a%2^n=0) (hy:b<2^n) (h:a+b<2^k.bits) (hw:k.wrap ((a+b:Nat):Int)=((a+b:Nat):Int)) (hk:K (.int k ((a+b:Nat):Int))):AC .or k (a:Int) k (b:Int) K:=by
 refine W8 (v := .int k (k.wrap (BitVec.ofInt k.bits (a:Int) ||| BitVec.ofInt k.bits (b:Int)).toNat)) (by simp only[DI,if_true]) ?_;rw[BitVec.toNat_or,eJ,eJ,Nat.mod_eq_of_lt (by omega),Nat.mod_eq_of_lt (by omega),Afs hx hy,hw];exact hk
theorem O6 (h:a%4294967296=0/\b<4294967296/\a+b<=18446744073709551615) (hk:K (.int .u64 ((a+b:Nat):Int))):AC .or .u64 (a:Int) .u64 (b:Int) K :=
 aE 32 h.1 h.2.1 (show a+b<18446744073709551616 by omega) (IntWalk.u64_in _ (by omega)) hk
theorem iX (h:a<=18446744073709551615) (hk:K (.int .u64 ((a%4294967296:Nat):Int))):AC .and .u64 (a:Int) .u64 4294967295 K:=by
 refine W8 (v := .int .u64 (IntKind.u64.wrap (BitVec.ofInt IntKind.u64.bits (a:Int) &&& BitVec.ofInt IntKind.u64.bits 4294967295).toNat)) (by simp only[DI,if_true]) ?_;rw[BitVec.toNat_and,eJ,show (BitVec.ofInt IntKind.u64.bits 4294967295).toNat=2^32-1 by decide,Nat.and_two_pow_sub_one_eq_mod,show a%2^IntKind.u64.bits=a from Nat.mod_eq_of_lt (show a<18446744073709551616 by omega),IntWalk.u64_in _ (by omega)];exact hk
theorem iW (hk:K (.int .u32 (((a+b)%4294967296:Nat):Int))):AC .add .u32 (a:Int) .u32 (b:Int) K :=
 W8 (v := .int .u32 (IntKind.u32.wrap ((a:Int)+b))) (by simp only[DI,if_true]) (by rw[<-Int.natCast_add,wrap_u32];exact hk)
end
section
variable {K:Int->Prop} {n:Nat}
theorem iQ (h:n<=18446744073709551615) (hk:K (n:Int)):AW .u64 (n:Int) K:=UG (IntWalk.u64_in _ (by omega)) hk
theorem EE (h:n<=4294967295) (hk:K (n:Int)):AW .u32 (n:Int) K:=UG (IntWalk.u32_in _ (by omega)) hk
theorem FK (hk:K ((n%4294967296:Nat):Int)):AW .u32 (n:Int) K:=by unfold AW;rw[wrap_u32];exact hk
theorem wR (h:n<=255) (hk:K (n:Int)):AW .u8 (n:Int) K:=UG (IntWalk.u8_in _ (by omega)) hk
end
theorem XN {tb:List Nat} {n v:Nat} {K:Nat->Prop} (hv:tb[n]? = some v) (hk:K v):Q9 tb (n:Int) K:=⟨by omega,v,by rw[Int.toNat_natCast];exact hv,hk⟩
abbrev AL (n:Nat):List AV:=[.int .u32 (n:Int)]
theorem CQ (l:List Nat):F5 (l.map AL):=S5 (λ_=>by simp [CW,A4]) l
section
variable {l:List Nat} {K:List AV->Prop}
theorem XG {n:Nat} (hD:A1 l) (hn:n<l.length) (h : ∀ e,l[n]? = some e->e<4294967296->K (AL e)):AX (l.map AL) (n:Int) 1 K :=
 xK hn (λ_=>rfl) λ e he=>h e he (hD.at he)
theorem P4 {a:Int} (hD:A1 l) (hn:0<=a/\a<l.length) (h : ∀ e,l[a.toNat]? = some e->e<4294967296->K (AL e)):AX (l.map AL) a 1 K :=
 aI hn (λ_=>rfl) λ e he=>h e he (hD.at he)
theorem iV {i:Nat} (hD:A1 l) (hi:i<l.length) (h : ∀ e,l[i]? = some e->e<4294967296->K (AL e)):A5 (l.map AL) (0+((i:Int)).toNat) 0 1 K :=
 FU (f:=AL) hi (λ_=>rfl) λ e he=>h e he (hD.at he)
theorem Q7 {i:Int} (hD:A1 l) (hi:0<=i/\i<l.length) (h : ∀ e,l[i.toNat]? = some e->e<4294967296->K (AL e)):A5 (l.map AL) (0+i.toNat) 0 1 K :=
 W6 (f:=AL) hi (λ_=>rfl) λ e he=>h e he (hD.at he)
theorem E7 {i v:Nat} {KK:List (List AV)->Prop} (hi:i<l.length) (h:KK ((l.set i v).map AL)):A6 (l.map AL) (0+((i:Int)).toNat) 0 [.int .u32 (v:Int)] KK:=FW (enc:=AL) v rfl (λ_=>rfl) hi h
theorem XL {i v:Nat} {KK:List (List AV)->Prop} (n:Nat) (hn:i=n) (hi:n<l.length) (h:KK ((l.set n v).map AL)):A6 (l.map AL) i 0 [.int .u32 (v:Int)] KK:=SU (enc:=AL) n v hn rfl (λ_=>rfl) hi h
end
end Go.c5
namespace Go.c5
variable {L:Lib}
theorem Ev.xE {f:Nat} {fn:AFn} {vs:List AV} {P:AV->Prop} (hL:L f=some fn) (hp:Nat.beq vs.length fn.z8=true) (hd:J0 vs=true) (h:AA L [.code fn.body] (CY 0 vs) [] (λ tm M => ∃ r,P5 fn r tm M/\P r)) (hs:fn.pf=false:=by rfl) : ∃ r,Ev L f vs r/\P r:=by
 obtain ⟨n,c,j7,hr,σ,tm,M,hR,r,hq,hP⟩:=h (λ_ _=>(0,0)) ⟨CY 0 vs,AH.emp⟩ ⟨λ j=>Or.inr (by rw[JL];exact U1 hd j),⟨(λ_ _ _ e=>by cases e),(λ_ _ _ e=>by simp [b8,c6]at e),(λ_ _ _ e=>by simp [b8,c6]at e),(λ_ _ _ _ _ _ e=>by simp [b8,c6]at e),(λ_ _ _ e=>by simp [b8,c6]at e)⟩⟩;exact ⟨r,Ev.fwd hL (BK.1 hp) ⟨n,c,j7,hr,jD hR hq⟩ hs,hP⟩
def TW:DY->Bool
 | .s9 .. | .box .. | .alloc .. | .c7 .. | .st .. | .mk .. | .app .. | .oa .. | .e9 .. | .m9 .. | .na .. | .o9 .. | .dj .. | .nb .. | .nw .. | .bg .. => false
 | _=>true
def HW:BI->Bool
 | .skip=>true
 | .ops l _=>l.all λ a=>TW a.op
 | .dr c _ ss=>HW c&&ss.isEmpty
 | .scope c=>HW c
 | .seq a b=>HW a&&HW b
 | .cond _ a b=>HW a&&HW b
 | .block _ c=>HW c
 | .loop c=>HW c
 | .exit _=>true
 | .ret=>true
def PK:It->Bool
 | .code c=>HW c
 | .jx _ ss=>ss.isEmpty
 | .e8 _=>true
 | .lp c=>HW c
theorem Ul {C:Cl} {b9:List Nat} {ρ:AP->AV} {own:AH} {op:DY} {E:CB} (ho:TW op=true) (h:c9 C b9 ρ own op=some E) : ∃ v,E = .val v:=by
 cases op<;>first|(simp [TW]at ho;done)|skip
 all_goals simp only[c9]at h
 all_goals
  first
   | (simp only[Option.some.injEq]at h;exact ⟨_,h.symm⟩)
   | (simp only[Option.map_eq_some_iff]at h;obtain ⟨_,_,rfl⟩:=h;exact ⟨_,rfl⟩)
   | skip
 all_goals (repeat' split at h)
 all_goals
  first
   | (cases h;done)
   | (simp only[Option.some.injEq]at h;exact ⟨_,h.symm⟩)
   | (simp only[Option.map_eq_some_iff]at h;obtain ⟨_,_,rfl⟩:=h;exact ⟨_,rfl⟩)
theorem AgH {C:Cl} {a:AI} (ho:TW a.op=true) {s s':St} (h:C8 C a s=some s'):s'.own=s.own:=by
 unfold C8 at h;split at h
 ·cases he:c9 C a.b9 s.ev s.own a.op with
  | none=>rw[he]at h;cases h
  | some E =>
   rw[he]at h;obtain ⟨v,rfl⟩:=Ul ho he;simp only[Option.map_some,Option.some.injEq]at h;subst h;simp only[St.app];cases a.dst<;>rfl
 ·simp only[Option.some.injEq]at h
  subst h;cases a.dst<;>rfl
 ·cases h
theorem uE {C:Cl} : ∀ {l:List AI},(l.all λ a=>TW a.op)=true -> ∀ {s s':St},DB C l s=some s'->s'.own=s.own
 | [],_,s,s',h=>by simp only[DB,Option.some.injEq]at h;rw[h]
 | a::l,ho,s,s',h=>by
  simp only[List.all_cons,Bool.and_eq_true]at ho;simp only[DB]at h;cases h1:C8 C a s with
  | none=>rw[h1]at h;cases h
  | some s1 =>
   rw[h1]at h;rw[uE ho.2 h,AgH ho.1 h1]
theorem VM {id:Nat} : ∀ {k k':List It},k.all PK=true->DW id k=some k'->k'.all PK=true
 | [],_,_,h=>by simp [DW]at h
 | it::k,k',hk,h=>by
  simp only[List.all_cons,Bool.and_eq_true]at hk;cases it with
  | e8 i =>
   simp only[DW]at h;split at h
   ·cases h;exact hk.2
   ·exact VM hk.2 h
  | code c=>simp only[DW]at h;exact VM hk.2 h
  | jx a b=>simp only[DW]at h;exact VM hk.2 h
  | lp c=>simp only[DW]at h;exact VM hk.2 h
theorem II {C:Cl} : ∀ (n:Nat) {k:List It},k.all PK=true -> ∀ {s s':St},run C n k s=some s'->s'.own=s.own
 | 0,k,_,s,s',h=>by simp [run]at h
 | n+1,[],_,s,s',h=>by
  simp only[run,Option.some.injEq]at h;rw[h]
 | n+1,it::k,hk,s,s',h=>by
  have gx:=hk;simp only[List.all_cons,Bool.and_eq_true]at hk;obtain ⟨hi,hk⟩:=hk;cases it with
  | e8 _=>simp only[run]at h;exact II n hk h
  | jx ts ss =>
   have:ss=[]:=by simpa [PK] using hi
   subst this;simp only[run]at h;rw[II n hk h];rfl
  | lp c=>simp only[run]at h;exact II n (by simp only[List.all_cons,Bool.and_eq_true];exact ⟨hi,hi,hk⟩) h
  | code c =>
   cases c with
   | skip=>simp only[run]at h;exact II n hk h
   | ops l d =>
    simp only[run]at h;cases h1:DB C l s with
    | none=>rw[h1]at h;cases h
    | some s1 =>
     rw[h1]at h;rw[II n hk h,uE (show (l.all λ a=>TW a.op)=true from hi) h1]
   | dr c ts ss =>
    simp only[run]at h;simp only[PK,HW,Bool.and_eq_true]at hi;exact II n (by simp only[List.all_cons,Bool.and_eq_true];exact ⟨hi.1,hi.2,hk⟩) h
   | scope c=>simp only[run]at h;exact II n (by simp only[List.all_cons,Bool.and_eq_true];exact ⟨hi,hk⟩) h
   | seq a b =>
    simp only[run]at h;simp only[PK,HW,Bool.and_eq_true]at hi;exact II n (by simp only[List.all_cons,Bool.and_eq_true];exact ⟨hi.1,hi.2,hk⟩) h
   | cond x a b =>
    simp only[PK,HW,Bool.and_eq_true]at hi;simp only[run]at h;split at h
    ·exact II n (by simp only[List.all_cons,Bool.and_eq_true];exact ⟨hi.1,hk⟩) h
    ·exact II n (by simp only[List.all_cons,Bool.and_eq_true];exact ⟨hi.2,hk⟩) h
    ·cases h
   | block id c=>simp only[run]at h;exact II n (by simp only[List.all_cons,Bool.and_eq_true];exact ⟨hi,rfl,hk⟩) h
   | loop c=>simp only[run]at h;exact II n (by simp only[List.all_cons,Bool.and_eq_true];exact ⟨hi,hi,hk⟩) h
   | exit id =>
    simp only[run]at h;split at h
    ·rename_i k' he
     exact II n (VM hk he) h
    ·cases h
   | ret =>
    simp only[run,Option.some.injEq]at h;rw[h]
def xM (fn:AFn) (r:AV) (tm:Tm) (_M:Mem):Prop := ∃ rs,QS tm fn.res=some rs/\HP rs=r
def X8:AV->Bool
 | .g7 vs=>J0 vs
 | v=>P8 v
theorem lK {σ:FH} {v:AV} (h:X8 v=true):BH σ v=v:=by
 cases v with
 | g7 vs =>
  simp only[BH];congr 1;simp only[X8]at h;induction vs with
  | nil=>rfl
  | cons v r ih =>
   simp only[J0]at h;cases hv:P8 v<;>simp only[hv,cond_true,cond_false]at h
   ·cases h
   ·rw[List.map_cons,ih h]
    congr 1;cases v<;>first|rfl|(simp [P8,tc]at hv;done)|skip
    rename_i cs;exact X7 (σ:=σ) (v := .agg cs) hv
 | _=>exact X7 (σ:=σ) h
def UN (L:Lib) (f:Nat) (vs:List AV) (r:AV):Prop:=X8 r=true/\(∀ σ:FH,vs.map (BH σ)=vs) /\ ∀ own:AH,GG L f vs own r own
theorem lI {σ:FH} : ∀ {vs:List AV},J0 vs=true->vs.map (BH σ)=vs
 | [],_=>rfl
 | v::r,h=>by
  simp only[J0]at h;cases hv:P8 v<;>simp only[hv,cond_true,cond_false]at h
  ·cases h
  ·rw[List.map_cons,X7 hv,lI h]
theorem xN {f:Nat} {fn:AFn} {vs:List AV} {r:AV} (hL:L f=some fn) (hp:Nat.beq vs.length fn.z8=true) (hd:J0 vs=true) (Fw:HW fn.body=true) (k7:WC 100000 fn.res=true) (hr:X8 r=true) (h:AA L [.code fn.body] (CY 0 vs) [] (xM fn r)):UN L f vs r:=by
 refine ⟨hr,λ σ=>lI hd,λ own => ?_⟩;obtain ⟨n,c,j7,m7,σ,tm,M,hR,rs,Ly,he⟩:=h (λ_ _=>(0,0)) ⟨CY 0 vs,own⟩ ⟨λ j=>Or.inr (by rw[JL];exact U1 hd j),⟨(λ_ _ _ e=>by cases e),(λ_ _ _ e=>by simp [b8,c6]at e),(λ_ _ _ e=>by simp [b8,c6]at e),(λ_ _ _ _ _ _ e=>by simp [b8,c6]at e),(λ_ _ _ e=>by simp [b8,c6]at e)⟩⟩;have ho:=II n (by simp [PK,Fw]) m7;obtain ⟨i1,i2⟩:=fR (N:=100000) (s:=j7) hR (λ_ _=>rfl) k7 Ly;refine GG.intro hL (BK.1 hp) ⟨n,c,j7,m7,?_,ho⟩;rw[i1,Option.map_some,sI i2,he,lK hr]
theorem JR {f:Nat} {vs:List AV} {r:AV} {tm:Tm} {M:Mem} {K:AV->Mem->Prop} (h:UN L f vs r) (hk:K r M):A9 L f vs tm M K:=by
 intro σ own hs;refine ⟨r,own,σ,M,?_,hs,λ_=>rfl,hk⟩;rw[h.2.1 σ,lK h.1];exact h.2.2 own
end Go.c5

namespace Go.c5
variable {L:Lib}
def jC (fn:AFn) (z:Nat) (es:List (List AV)) (tm:Tm) (M:Mem):Prop:=match fn.res with
 | [.tmp t]=>match tg tm t with
  | .row k 0 z' 0 n=>match c6 M k with
   | some (_,.rw ax es')=>z'=z/\ax=z/\n=es.length/\es'=es/\F5 es
   | _=>False
  | _=>False
 | _=>False
theorem O3.x {f:Nat} {fn:AFn} {vs:List AV} {z:Nat} {es:List (List AV)} (hL:L f=some fn) (hp:Nat.beq vs.length fn.z8=true) (hd:J0 vs=true) (h:AA L [.code fn.body] (CY 0 vs) [] (jC fn z es)):O3 L f vs z es:=by
 obtain ⟨n,c,j7,hr,σ,tm,M,hR,hq⟩:=h (λ_ _=>(0,0)) ⟨CY 0 vs,AH.emp⟩ ⟨λ j=>Or.inr (by rw[JL];exact U1 hd j),⟨(λ_ _ _ e=>by cases e),(λ_ _ _ e=>by simp [b8,c6]at e),(λ_ _ _ e=>by simp [b8,c6]at e),(λ_ _ _ _ _ _ e=>by simp [b8,c6]at e),(λ_ _ _ e=>by simp [b8,c6]at e)⟩⟩;unfold jC at hq;split at hq
 ·rename_i t oo
  split at hq
  ·rename_i k z' m Qj
   split at hq
   ·rename_i s ax es' hM
    obtain ⟨rfl,rfl,rfl,rfl,m8⟩:=hq;have hv:g6 j7.tm t = .row (σ k 0).1 (σ k 0).2 ax 0 es'.length:=by
     rcases hR.tm t with e|e
     ·rw[Qj]at e;cases e
     ·rw[e,Qj];rfl
    have hb:=hR.sat.e8 k 0 (.rw ax es') (by simp only[b8,hM]);obtain ⟨q,hq⟩:=GG.intro (r := .row (σ k 0).1 (σ k 0).2 ax 0 es'.length) (o':=j7.own) hL (BK.1 hp) ⟨n,c,j7,hr,by simp [oo,E5,hv,IG,HP],rfl⟩;refine ⟨q,?_⟩;simp only[hq,OH,AH.get,hb];rw[if_pos (show (A7.e8 σ k (.rw ax es')).es.length=es'.length/\F5 (A7.e8 σ k (.rw ax es')).es from ⟨rfl,m8⟩)];rfl
   ·exact hq.elim
  ·exact hq.elim
 ·exact hq.elim
theorem vL {Q:Tm->Mem->Prop} {c:BI} {k:List It} {tm:Tm} {M:Mem} (n:Nat) (h:fT (va 0 tm) λ tm=>fM (mv M) λ M=>XK L Q n (.code c::k) tm M):AA L (.code c::k) tm M Q:=by
 rw[TI,I8]at h;exact iI (aK h)
theorem OC {α:Type} {enc:α->List AV} {l:List α} {f z:Nat} {vs:List AV} {K:Nat->List (List AV)->Nat->Prop} (n:Nat) (h:O3 L f vs z (l.map enc)) (hn:n=l.length) (hk:K z (l.map enc) n):CK L f vs K:=⟨z,_,n,h,by simpa using hn,hk⟩
end Go.c5

namespace Go.c5
open F
attribute [local irreducible] AA AF AM AC CI AW AX A5 A6 B3 AQ BS B7 C5 BQ A2 BO B9 AB A9 AJ pw BN BG CH CM CT CP CE BU CK
variable {L:Lib}
set_option maxHeartbeats 1000000
def C9 (a b:Int):Int:=if a<b then -1 else if b<a then 1 else 0
theorem HZ {a b:Int} (h:a<b) : -1=C9 a b:=by unfold C9;rw[if_pos h]
theorem ON {a b:Int} (h:b<a):1=C9 a b:=by unfold C9;rw[if_neg (by omega),if_pos h]
theorem RF {a b:Int} (h:a=b):0=C9 a b:=by unfold C9;rw[if_neg (by omega),if_neg (by omega)]
theorem Yy (N:c8 L) (a:Int):Ev L 58 [.int .i64 a] (.bool false):=by
 refine Ev.x N.KJ rfl rfl ?_;(repeat' ((first|(apply AG<;>intro hc<;>try (exfalso;omega))|apply AD)<;>conv=>whnf))
 exact IZ rfl
theorem Yz (N:c8 L) (a:Int):Ev L 59 [.int .u32 a] (.bool false):=by
 refine Ev.x N.KL rfl rfl ?_;(repeat' ((first|(apply AG<;>intro hc<;>try (exfalso;omega))|apply AD)<;>conv=>whnf))
 exact IZ rfl
theorem Yg (N:c8 L) (a b:Int):Ev L 60 [.int .i64 a,.int .i64 b] (.int .i64 (C9 a b)):=by
 refine Ev.x N.KH rfl rfl ?_;(repeat' ((first|(apply AG<;>intro hc<;>try (exfalso;omega))|apply AD|refine AE (Yy N _) ?_)<;>conv=>whnf))
 ·exact C2 (HZ (by omega))
 ·exact C2 (ON (by omega))
 ·exact C2 (RF (by omega))
theorem Acc (N:c8 L) (a b:Int):Ev L 61 [.int .u32 a,.int .u32 b] (.int .i64 (C9 a b)):=by
 refine Ev.x N.KI rfl rfl ?_;(repeat' ((first|(apply AG<;>intro hc<;>try (exfalso;omega))|apply AD|refine AE (Yz N _) ?_)<;>conv=>whnf))
 ·exact C2 (HZ (by omega))
 ·exact C2 (ON (by omega))
 ·exact C2 (RF (by omega))
theorem mW (N:c8 L) (l:List Nat) (q:Bool) (hl:l.length<=1099511627776):Ev L 62 [.sl q (l.map AL)] (.sl false (l.map AL)):=by
 cases l with
 | nil =>
  refine FL.nil N.HH (FL.x N.HH rfl rfl ?_) (FL.x N.HH rfl rfl ?_)
  ·(repeat' (apply AD<;>conv=>whnf))
   exact AZ rfl (by simp [A4,F5])
  ·(repeat' (apply AD<;>conv=>whnf))
   refine WY (enc:=AL) (l:=[]) (l':=[]) rfl (λ_=>rfl) (by simp) (by simp) ?_;(conv=>whnf)
   (repeat' ((refine DL (λ_=>rfl) rfl ?_ ?_;(first|rfl|simp))<;>conv=>whnf))
   exact AZ rfl (by simp [A4,F5])
 | cons d l =>
  refine FL.cons (FL.x N.HH rfl rfl ?_);(repeat' (apply AD<;>conv=>whnf))
  refine AY (by simp) ?_;(conv=>whnf)
  skip
  refine WY (enc:=AL) (l:=[]) (l':=d::l) rfl (λ_=>rfl) (by simp at hl ⊢;omega) (by simp at hl ⊢;omega) ?_;(conv=>whnf)
  (repeat' ((refine DL (λ_=>rfl) rfl ?_ ?_;(first|rfl|simp))<;>conv=>whnf))
  exact AZ rfl (by simp only[A4,true_and];exact CQ (d::l))
theorem J9 (N:c8 L) (l:List Nat) (q:Bool) (hD:A1 l) (hl:l.length<=1099511627776):UN L 65 [.sl q (l.map AL)] (.sl q ((dg (val l)).map AL)):=by
 refine xN N.FI rfl rfl rfl rfl rfl ?_;(repeat' ((first|apply AR|apply AD)<;>conv=>whnf))
 refine BR (λ n=>n) (λ(n:Nat)=>n<=l.length /\ ∀ i,n<=i->i<l.length->l[i]? = some 0) (λ n=>[(3,.int .i64 n)]) (λ_=>[]) [] [] l.length (by (conv=>whnf);exact ⟨rfl,rfl,rfl⟩) ⟨Nat.le_refl _,λ i h1 h2=>by omega⟩ ?_;intro n ⟨p1,p2⟩ ih;rcases n with _|n
 ·(repeat' ((first|(apply AG<;>intro hc<;>try (exfalso;omega))|apply AD)<;>conv=>whnf))
  refine Q8 (k:=0) (λ_=>rfl) (by omega) ?_;(conv=>whnf)
  refine ⟨_,rfl,?_⟩;rw[F8 hD p1 p2 (Or.inl rfl)];rfl
 ·have e1:((n+1:Nat):Int)-1=n:=by omega
  (repeat' ((first|(apply AG<;>intro hc<;>try (exfalso;omega))|(apply B6;omega)|(refine P4 (by assumption) ?_ (λ e he hb => ?_);omega)|apply AD)<;>conv=>whnf))
  ·rw[e1]
   exact BF [] (ih n (by omega) ⟨by omega,λ i h1 h2=>by
    by_cases h:i=n
    ·subst h
     rw[e1,Int.toNat_natCast]at he;rw[he];congr 1;omega
    ·exact p2 i (by omega) h2⟩)
  ·refine Q8 (k:=n+1) (λ_=>rfl) (by omega) ?_
   (conv=>whnf)
   refine ⟨_,rfl,?_⟩;rw[e1,Int.toNat_natCast]at he;rw[F8 hD p1 p2 (Or.inr ⟨e,he,by omega⟩)];rfl
theorem U8 (N:c8 L) (l:List Nat) (q:Bool) (hD:A1 l) (hl:l.length<=1099511627776):Ev L 66 [.sl q (l.map AL)] (.sl false ((dg (val l)).map AL)):=by
 have hc:=ES hD;refine Ev.x N.LI rfl rfl ?_;(repeat' ((first|apply AD|refine JR (J9 N l _ hD hl) ?_|refine AE (mW N (dg (val l)) _ (by omega)) ?_)<;>conv=>whnf))
 exact AZ rfl (by simp only[A4,true_and];exact CQ _)
theorem Tu {a b:Nat} (h:((dg a).length:Int)≠(dg b).length):C9 (dg a).length (dg b).length=C9 a b:=by
 rcases Nat.lt_trichotomy (dg a).length (dg b).length with h1|h1|h1
 ·have:=UE h1
  rw[<-HZ (by omega),<-HZ (by omega)]
 ·omega
 ·have:=UE h1
  rw[<-ON (by omega),<-ON (by omega)]
theorem PG (N:c8 L) (a b:List Nat) (q1 q2:Bool) (hA:A1 a) (hB:A1 b) (la:a.length<=1099511627776) (lb:b.length<=1099511627776):Ev L 67 [.sl q1 (a.map AL),.sl q2 (b.map AL)] (.int .i64 (C9 (val a) (val b))):=by
 have l1:=ES hA;have l2:=ES hB;have d1:=DU (val a);have d2:=DU (val b);refine Ev.x N.LE rfl rfl ?_;(repeat' ((first|(apply AG<;>intro hc<;>try (exfalso;omega))|(apply B6;omega)|apply AR|apply AD|refine JR (J9 N a _ hA la) ?_|refine JR (J9 N b _ hB lb) ?_|refine AE (Yg N _ _) ?_)<;>conv=>whnf))
 ·exact C2 (Tu (by omega))
 have hlen:(dg (val a)).length=(dg (val b)).length:=by omega
 have v1:=B1 (val a);have v2:=B1 (val b);generalize dg (val a)=X at *;generalize dg (val b)=Y at *;refine BR (λ n=>n) (λ(n:Nat)=>n<=X.length/\X.drop n=Y.drop n) (λ n=>[(7,.int .i64 ((n:Int)-1))]) (λ_=>[]) [] [] X.length (by (conv=>whnf);exact ⟨rfl,rfl,rfl⟩) ⟨Nat.le_refl _,by rw[List.drop_of_length_le (Nat.le_refl _),List.drop_of_length_le (by omega)]⟩ ?_;intro n ⟨p1,p2⟩ ih;rcases n with _|n
 ·(repeat' ((first|(apply AG<;>intro hc<;>try (exfalso;omega))|apply AD)<;>conv=>whnf))
  rw[List.drop_zero,List.drop_zero]at p2;exact C2 (RF (by rw[<-v1,<-v2,p2]))
 ·have e1:((n+1:Nat):Int)-1=n:=by omega
  rw[e1];(repeat' ((first|(apply AG<;>intro hc<;>try (exfalso;omega))|(apply B6;omega)|(refine BC (by assumption) ?_ rfl ?_;omega)|(refine XG (by assumption) ?_ (λ e he hb => ?_);omega)|apply AD|refine AE (Acc N _ _) ?_)<;>conv=>whnf))
  ·rename_i x hx _
   rcases Nat.lt_trichotomy x e with h|h|h
   ·have:=Z2 d1 d2 hlen hx he p2 h
    refine C2 ?_;rw[<-HZ (by omega),<-HZ (by omega)]
   ·omega
   ·have:=Z2 d2 d1 hlen.symm he hx p2.symm h
    refine C2 ?_;rw[<-ON (by omega),<-ON (by omega)]
  ·rename_i x hx _
   refine BZ [] (by (conv=>whnf);exact ⟨rfl,rfl,rfl⟩) (ih n (by omega) ⟨by omega,?_⟩);obtain ⟨i1,e1⟩:=zS hx;obtain ⟨i2,e2⟩:=zS he;rw[List.drop_eq_getElem_cons i1,List.drop_eq_getElem_cons i2,p2,e1,e2];congr 1;omega
end Go.c5

namespace Go.c5
section
variable {U V UL VL p u0 u1 u2 v1 v2 top q r:Nat}
theorem Zv (hU:U=UL+p*(u2+4294967296*top)) (hV:V=VL+p*(v2+4294967296*v1)) (hl:UL<p) (h2:u2<4294967296) (y8:0<V):U/V*v1<=top:=by
 have h1:U/V*V<=U:=Nat.div_mul_le_self U V;generalize U/V=Q at *;have h3:U<p*(4294967296*(top+1)):=by
  have:p*(u2+4294967296*top)+p<=p*(4294967296*(top+1)):=by
   rw[<-Nat.mul_succ];exact Nat.mul_le_mul_left p (by omega)
  omega
 have h4:p*(4294967296*(Q*v1))<=Q*V:=by
  have e:Q*V=Q*VL+Q*(p*v2)+p*(4294967296*(Q*v1)):=by rw[hV];grind
  omega
 have h5:p*(4294967296*(Q*v1))<p*(4294967296*(top+1)):=by omega
 have:=Nat.lt_of_mul_lt_mul_left h5
 omega
theorem Zu (hU:U=UL+p*(u2+4294967296*top)) (hV:V=VL+p*(v2+4294967296*v1)) (hl:UL<p) (hq:q*v1+r=top) (h:r*4294967296+u2<q*v2) (y8:0<V):U/V<q:=by
 rw[Nat.div_lt_iff_lt_mul y8];have e:q*V=q*VL+p*(q*v2+4294967296*(q*v1)):=by rw[hV];grind
 have h1:p*(u2+4294967296*top)+p<=p*(q*v2+4294967296*(q*v1)):=by
  rw[<-Nat.mul_succ];exact Nat.mul_le_mul_left p (by omega)
 omega
theorem Zt (h:U<4294967296*V) (hq:4294967296<=q) (y8:0<V):U/V<q:=by
 have:U/V<4294967296:=(Nat.div_lt_iff_lt_mul y8).2 h
 omega
theorem oW (hU:U=UL+p*(u2+4294967296*top)) (hV:V=VL+p*(v2+4294967296*v1)) (Am:VL<p) (h1:2147483648<=v1) (hq:q*v1+r=top) (h:q*v2<=r*4294967296+u2) (hqB:q<4294967296):q<=U/V+1:=by
 have y8:0<V:=by
  have:p*4294967296<=p*(v2+4294967296*v1):=Nat.mul_le_mul_left p (by omega)
  omega
 by_cases h0:q=0
 ·subst h0;exact Nat.zero_le _
 have e:q*V=q*VL+p*(q*v2+4294967296*(q*v1)):=by rw[hV];grind
 have h2:p*(q*v2+4294967296*(q*v1))<=p*(u2+4294967296*top):=Nat.mul_le_mul_left p (by omega);have h3:q*VL<V:=by
  have a1:q*VL<=4294967296*VL:=Nat.mul_le_mul_right _ (by omega);have a2:p*4294967296<=p*(v2+4294967296*v1):=Nat.mul_le_mul_left p (by omega);omega
 have h4:(q-1)*V<U+1:=by
  have:(q-1)*V+V=q*V:=by
   have:q=q-1+1:=by omega
   rw[<-Nat.succ_mul,Nat.succ_eq_add_one,<-this]
  omega
 have h5:q-1<=U/V:=(Nat.le_div_iff_mul_le y8).2 (by omega);omega
end
theorem lO {U V U' q:Nat} (y8:0<V) (h1:U/V<=q) (h:U'+q*V=U):q=U/V/\U'=U%V:=by
 have h2:q*V<=U:=by omega
 have h3:q<=U/V:=(Nat.le_div_iff_mul_le y8).2 h2;have h4:q=U/V:=by omega
 have:=Nat.div_add_mod U V
 rw[Nat.mul_comm,<-h4]at this;exact ⟨h4,by omega⟩
theorem lN {U V U' q P:Nat} (y8:0<V) (h2:q<=U/V+1) (Ci:U'<P) (h:U'+q*V=U+P):q-1=U/V/\1<=q/\U'+V=U%V+P:=by
 have h3:U/V*V<=U:=Nat.div_mul_le_self U V;have h4:U/V<q:=by
  rcases Nat.lt_or_ge (U/V) q with h|h
  ·exact h
  ·have:q*V<=U/V*V:=Nat.mul_le_mul_right _ h
   omega
 have h6:=Nat.div_add_mod U V;rw[Nat.mul_comm]at h6;generalize U/V=Q at *;generalize U%V=R at *;obtain rfl:q=Q+1:=by omega
 rw[Nat.add_mul,Nat.one_mul]at h;exact ⟨by omega,by omega,by omega⟩
theorem ZY {u pl bw:Nat} (hu:u<4294967296) (hp:pl<4294967296) (hb:bw<=1):EK (EK u pl) bw%4294967296+pl+bw=u+4294967296*(EK (EK u pl) bw/9223372036854775808)/\EK (EK u pl) bw/9223372036854775808<=1:=by
 rw[SD,SD];omega
theorem AgM {d e bw:Nat} (hu:d<4294967296) (hp:e<4294967296) (hb:bw<=1):EK (EK d bw) e%4294967296+e+bw=d+4294967296*(EK (EK d bw) e/9223372036854775808)/\EK (EK d bw) e/9223372036854775808<=1:=by
 rw[SD,SD];omega
theorem AgL {d bw:Nat} (hu:d<4294967296) (hb:bw<=1):EK d bw%4294967296+bw=d+4294967296*(EK d bw/9223372036854775808)/\EK d bw/9223372036854775808<=1:=by
 rw[SD];omega
theorem uG {V Y X p D e bw bq d:Nat} (h:V+Y=X+p*bw) (hd:D+e+bw=d+4294967296*bq):V+p*D+(Y+p*e)=X+p*d+p*4294967296*bq:=by
 have h2:p*D+p*e+p*bw=p*d+p*4294967296*bq:=by
  rw[<-Nat.mul_add,<-Nat.mul_add,hd,Nat.mul_add,Nat.mul_assoc]
 omega
theorem TU {a b:Nat} (ha:a<4294967296) (hb:b<4294967296):a*b<=18446744065119617025 :=
 Nat.mul_le_mul (show a<=4294967295 by omega) (show b<=4294967295 by omega)
theorem lQ {X Y s:Nat} (hs:0<s):X*s/(Y*s)=X/Y/\X*s%(Y*s)/s=X%Y:=by
 refine ⟨Nat.mul_div_mul_right X Y hs,?_⟩;rw[Nat.mul_mod_mul_right,Nat.mul_div_cancel _ hs]
end Go.c5
