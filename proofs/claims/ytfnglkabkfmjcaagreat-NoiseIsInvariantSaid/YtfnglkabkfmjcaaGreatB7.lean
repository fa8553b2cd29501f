/-
  The walk by computation is sound: calls, regions, code, loops, functions.
-/
import Derived.Test.YtfnglkabkfmjcaaGreatB6
import Derived.Calls
import Derived.Test.YtfnglkabkfmjcaaGreatB3
set_option linter.unusedSimpArgs false
set_option linter.unusedVariables false
set_option linter.unnecessarySimpa false
namespace Go.e9
section
variable {σ:F5} {tm:Tm} {M:Mem} {st:St} {L:Lib} {g9:List Nat}
theorem AeV {own:AH} {q:Bool} {d:Nat} : ∀ {e:List AV},F7 e=true->e.mapM (snap own q d)=some e
 | [],_=>rfl
 | v::r,h=>by
  have hv:snap own q d v=some v/\F7 r=true:=by
   cases v<;>simp only[F7]at h<;>first|cases h|exact ⟨by cases d<;>rfl,h⟩
  rw[List.mapM_cons,hv.1,AeV hv.2];rfl
theorem AeX {own:AH} {q:Bool} {d:Nat} : ∀ {e:List AV},Y6 e=true->e.mapM (snap own q d)=some (e.map nl)
 | [],_=>rfl
 | v::r,h=>by
  have hv:snap own q d v=some (nl v)/\Y6 r=true:=by
   cases v<;>simp only[Y6]at h<;>first|cases h|exact ⟨by cases d<;>rfl,h⟩
  rw[List.mapM_cons,hv.1,AeX hv.2];rfl
theorem AeW {own:AH} {q:Bool} {d:Nat} : ∀ {es:List (List AV)},(∀ e∈es,Y6 e=true)->es.mapM (λ cs:List AV=>cs.mapM (snap own q d))=some (es.map λ e=>e.map nl)
 | [],_=>rfl
 | e::r,h=>by
  rw[List.mapM_cons,AeX (h e List.mem_cons_self),AeW λ x hx=>h x (List.mem_cons_of_mem _ hx)];rfl
theorem AeU {own:AH} {q:Bool} {d:Nat} : ∀ {es:List (List AV)},(∀ e∈es,F7 e=true)->es.mapM (λ cs:List AV=>cs.mapM (snap own q d))=some es
 | [],_=>rfl
 | e::r,h=>by
  rw[List.mapM_cons,AeV (h e List.mem_cons_self),AeU λ x hx=>h x (List.mem_cons_of_mem _ hx)];rfl
theorem AfW (hs:TW σ st.own M) {q:Bool} {v:AV} {K:AV->Prop} (h:iP q M g9 v K) : ∃ v',(∀ d,snap (st.own.z0 g9) q (d+1) (BA σ v)=some v')/\K v'/\v ≠ .any/\BR σ v=BA σ v:=by
 cases v with
 | row key t z off len =>
  have fin : ∀ (z':Nat) (es:List (List AV)),((st.own.z0 g9) (σ key t).1).m5 (σ key t).2=some ⟨z',es⟩->z=z'->A4 es off len (λ es=>K (.sl q es)) -> ∃ v',(∀ d,snap (st.own.z0 g9) q (d+1) (BA σ (.row key t z off len))=some v')/\K v'/\AV.row key t z off len ≠ .any/\BR σ (.row key t z off len)=BA σ (.row key t z off len):=by
   intro z' es hb hz h;subst hz;obtain ⟨h1,h2,h3⟩:=h;refine ⟨_,λ d => ?_,h3,(by intro e;cases e),rfl⟩;simp only[BA,snap,ET,AH.get,hb];rw[if_pos ⟨h1,trivial⟩];simp only;rw[AeW λ e he=>h2 e (List.mem_of_mem_drop (List.mem_of_mem_take he))];rfl
  simp only[iP]at h;split at h
  ·rename_i s z' es hm
   split at h
   ·cases hz:Nat.beq z z'<;>simp only[hz,cond_true,cond_false]at h
    cases hb:fA s g9<;>simp only[hb,cond_true,cond_false]at h;refine fin z' es ?_ (BN.1 hz) h;have ek:=hs.m5 _ _ _ (EM hm);rw[hs.site _ _ _ hm]at ek ⊢;rw[kO hb];exact ek
   ·exact h.elim
  ·rename_i s rows hm
   split at h
   ·exact h.elim
   ·rename_i i
    split at h
    ·obtain ⟨z',es,g,h⟩:=h
     cases hz:Nat.beq z z'<;>simp only[hz,cond_true,cond_false]at h;exact fin z' es (hs.m5 key (i+1) (.rw z' es) (by simp [g8,hm,g])) (BN.1 hz) h
    ·rename_i b r
     cases hb:iD (b::r)<;>simp only[hb,cond_true,cond_false]at h;obtain ⟨z',es,g,h⟩:=h;cases hz:Nat.beq z z'<;>simp only[hz,cond_true,cond_false]at h;have g':g8 M key (i+1)=some (.rw z' es):=by simp [g8,hm,g]
     refine fin z' es ?_ (BN.1 hz) h;rw[zU (hs.low _ _ _ g' rfl) hb];exact hs.m5 key (i+1) (.rw z' es) g'
  ·exact h.elim
 | int k n=>exact ⟨_,λ d=>rfl,h,(by intro e;cases e),rfl⟩
 | bool b=>exact ⟨_,λ d=>rfl,h,(by intro e;cases e),rfl⟩
 | sl l es=>exact ⟨_,λ d=>rfl,h,(by intro e;cases e),rfl⟩
 | ib c=>exact ⟨_,λ d=>rfl,h,(by intro e;cases e),rfl⟩
 | nil=>exact ⟨_,λ d=>rfl,h,(by intro e;cases e),rfl⟩
 | _=>exact (h:False).elim
theorem AfV (hs:TW σ st.own M) {q:Bool} : ∀ {l:List AV} {K:List AV->Prop},tG q M g9 l K -> ∃ l',(∀ d,(l.map (BA σ)).mapM (snap (st.own.z0 g9) q (d+1))=some l')/\K l'
 | [],K,h=>⟨[],λ d=>rfl,h⟩
 | v::r,K,h=>by
  obtain ⟨v',h1,h2,_⟩:=AfW hs (show iP q M g9 v λ v'=>tG q M g9 r λ r'=>K (v'::r') from h);obtain ⟨l',h3,h4⟩:=AfV hs h2;refine ⟨v'::l',λ d => ?_,h4⟩;rw[List.map_cons,List.mapM_cons,h1 d,h3 d];rfl
theorem AfU (hs:TW σ st.own M) {q:Bool} : ∀ {l:List (List AV)} {K:List (List AV)->Prop},Mq q M g9 l K -> ∃ l',(∀ d,(l.map λ cs=>cs.map (BA σ)).mapM (λ cs:List AV=>cs.mapM (snap (st.own.z0 g9) q (d+1)))=some l')/\K l'
 | [],K,h=>⟨[],λ d=>rfl,h⟩
 | v::r,K,h=>by
  obtain ⟨v',h1,h2⟩:=AfV hs (show tG q M g9 v λ v'=>Mq q M g9 r λ r'=>K (v'::r') from h);obtain ⟨l',h3,h4⟩:=AfU hs h2;refine ⟨v'::l',λ d => ?_,h4⟩;rw[List.map_cons,List.mapM_cons,h1 d,h3 d];rfl
theorem Oe {own:AH} {q:Bool} {d:Nat} {k:Nat} : ∀ {rows:List (Option (Nat × List (List AV)))} {i:Nat},(∀ j z es,rows[j]? = some (some (z,es))->(own (σ k (i+j+1)).1).m5 (σ k (i+j+1)).2=some ⟨z,es⟩ /\ ∀ e∈es,F7 e=true) ->
  (B9 σ k i rows).mapM (λ cs:List AV=>cs.mapM (snap own q (d+1)))=some (fJ q rows)
 | [],i,h=>rfl
 | none::r,i,h=>by
  rw[B9,List.mapM_cons,Oe (i:=i+1) λ j z es hj=>by
   have:=h (j+1) z es (by simpa using hj)
   rwa [show i+(j+1)+1=i+1+j+1 by omega]at this]
  rfl
 | some (z,es)::r,i,h=>by
  rw[B9,List.mapM_cons,Oe (i:=i+1) λ j z es hj=>by
   have:=h (j+1) z es (by simpa using hj)
   rwa [show i+(j+1)+1=i+1+j+1 by omega]at this]
  obtain ⟨h1,h2⟩:=h 0 z es rfl;have:snap own q (d+1) (.row (σ k (i+1)).1 (σ k (i+1)).2 z 0 es.length)=some (.sl q es):=by
   simp only[snap,ET,AH.get];rw[show (own (σ k (i+1)).1).m5 (σ k (i+1)).2=some ⟨z,es⟩ from h1];simp only[Nat.zero_add,Nat.le_refl,and_self,if_true,List.drop_zero];rw[List.take_of_length_le (Nat.le_refl _),AeU h2];rfl
  rw[List.mapM_cons,this];rfl
theorem AfT (hs:TW σ st.own M) {q:Bool} {v:AV} {K:AV->Prop} (h:oD q M g9 v K) : ∃ v',snap (st.own.z0 g9) q 6 (BA σ v)=some v'/\K v'/\v ≠ .any/\BR σ v=BA σ v/\C8 (st.own.z0 g9) q (BA σ v)=some v':=by
 have yi:iP q M g9 v K -> ∃ v',snap (st.own.z0 g9) q 6 (BA σ v)=some v'/\K v'/\v ≠ .any/\BR σ v=BA σ v/\C8 (st.own.z0 g9) q (BA σ v)=some v':=by
  intro h;obtain ⟨v',h1,h2,h3,h4⟩:=AfW hs h;refine ⟨v',h1 5,h2,h3,h4,?_⟩;have:=h1 5
  cases v<;>first|exact this|exact (h:False).elim
 unfold oD at h;split at h
 ·rename_i key z off len
  split at h
  ·rename_i s z' es hm
   cases hz:Nat.beq z z'<;>simp only[hz,cond_true,cond_false]at h;cases hb:fA s g9<;>simp only[hb,cond_true,cond_false]at h;cases ho:Nat.beq off 0<;>simp only[ho,cond_true,cond_false]at h;obtain rfl:=BN.1 hz;obtain rfl:=BN.1 ho;obtain ⟨rfl,h⟩:=h;obtain ⟨l',h1,h2⟩:=AfU hs h;have ek:=hs.m5 _ _ _ (EM hm);rw[hs.site _ _ _ hm]at ek;have key:snap (st.own.z0 g9) q 6 (BA σ (.row key 0 z 0 es.length))=some (.sl q l'):=by
    simp only[BA,snap,ET,AH.get,hs.site _ _ _ hm];rw[kO hb,ek];simp only[A9.m5,Nat.zero_add,List.length_map,Nat.le_refl,and_self,if_true,List.drop_zero];rw[List.take_of_length_le (by simp),h1 4];rfl
   exact ⟨_,key,h2,(by intro e;cases e),rfl,key⟩
  ·rename_i s rows hm
   split at h
   ·cases hz:Nat.beq z 1<;>simp only[hz,cond_true,cond_false]at h
    obtain rfl:=BN.1 hz;obtain ⟨rfl,rfl,h1,h2⟩:=h;have ek:=hs.m5 _ _ _ (EM hm);have key:snap (st.own.z0 []) q 6 (BA σ (.row key 0 1 0 rows.length))=some (.sl q (fJ q rows)):=by
     simp only[BA,snap,ET,AH.get,AH.z0];rw[ek];simp only[A9.m5,Nat.zero_add,FE,Nat.le_refl,and_self,if_true,List.drop_zero];rw[List.take_of_length_le (by rw[FE];exact Nat.le_refl _),Oe (i:=0) λ j z es hj=>⟨by
      have:=hs.m5 key (j+1) (.rw z es) (by simp [g8,hm,hj])
      simpa [A9.m5] using this,h1 z es (zM hj)⟩]
     rfl
    exact ⟨_,key,h2,(by intro e;cases e),rfl,key⟩
   ·exact h.elim
  ·exact yi h
 ·exact yi h
theorem AfX (hs:TW σ st.own M) {q:Bool} : ∀ {l:List AV} {K:List AV->Prop},Up q M g9 l K -> ∃ l',(l.map (BA σ)).mapM (snap (st.own.z0 g9) q 6)=some l'/\K l'
 | [],K,h=>⟨[],rfl,h⟩
 | v::r,K,h=>by
  obtain ⟨v',h1,h2,_⟩:=AfT hs (show oD q M g9 v λ v'=>Up q M g9 r λ r'=>K (v'::r') from h);obtain ⟨l',h3,h4⟩:=AfX hs h2;refine ⟨v'::l',?_,h4⟩;rw[List.map_cons,List.mapM_cons,h1,h3];rfl
theorem tF (hs:TW σ st.own M) {q:Bool} {v:AV} {K:AV->Prop} (h:dN q M g9 v K) : ∃ v',C8 (st.own.z0 g9) q (BI σ v)=some v'/\K v'/\v ≠ .any/\BI σ v=BR σ v:=by
 cases v with
 | agg cs =>
  simp only[dN]at h;obtain ⟨l',h1,h2⟩:=AfX hs h;refine ⟨.agg l',?_,h2,(by intro e;cases e),rfl⟩;simp only[IQ,C8,h1,Option.map_some]
 | m9 vs=>exact (h:False).elim
 | fn p f g cs=>exact (h:False).elim
 | any=>exact (h:False).elim
 | _ =>
  simp only[dN]at h;obtain ⟨v',h1,h2,h3,h4,h5⟩:=AfT hs h;exact ⟨v',h5,h2,h3,rfl⟩
theorem tJ (hr:RX σ tm M st) : ∀ {xs:List AP} {K:List AV->Prop},oE tm M g9 xs K -> ∃ vs,(xs.map st.ev).mapM (C8 (st.own.z0 g9) true)=some vs/\K vs
 | [],K,h=>⟨[],rfl,h⟩
 | x::r,K,h=>by
  obtain ⟨v',h1,h2,h3,_⟩:=tF hr.sat (show dN true M g9 (ex tm x) λ v=>oE tm M g9 r λ vs=>K (v::vs) from h);obtain ⟨l',h4,h5⟩:=tJ hr h2;refine ⟨v'::l',?_,h5⟩;rw[List.map_cons,List.mapM_cons,hr.ev rfl h3,h1,h4];rfl
theorem Ap1 (hs:TW σ st.own M) {v:AV} {K:AV->Prop} (h:tH M g9 v K) : ∃ v',bZ (st.own.z0 g9) true (BI σ v)=some v'/\K v'/\v ≠ .any/\BI σ v=BR σ v:=by
 cases v with
 | nil=>exact ⟨.nil,rfl,h,(by intro e;cases e),rfl⟩
 | _ =>
  simp only[tH]at h;obtain ⟨v',h1,h2,h3,h4⟩:=tF hs h;exact ⟨v',h1,h2,h3,h4⟩
theorem AfY (hr:RX σ tm M st) : ∀ {xs:List AP} {K:List AV->Prop},Mr tm M g9 xs K -> ∃ vs,(xs.map st.ev).mapM (bZ (st.own.z0 g9) true)=some vs/\K vs
 | [],K,h=>⟨[],rfl,h⟩
 | x::r,K,h=>by
  obtain ⟨v',h1,h2,h3,_⟩:=Ap1 hr.sat (show tH M g9 (ex tm x) λ v=>Mr tm M g9 r λ vs=>K (v::vs) from h);obtain ⟨l',h4,h5⟩:=AfY hr h2;refine ⟨v'::l',?_,h5⟩;rw[List.map_cons,List.mapM_cons,hr.ev rfl h3,h1,h4];rfl
theorem mR (hr:RX σ tm M st) : ∀ {xs:List AP} {K:List AV->Prop},jU tm xs K -> ∃ vs,xs.map st.ev=vs.map (BI σ)/\K vs
 | [],K,h=>⟨[],rfl,h⟩
 | x::r,K,h=>by
  obtain ⟨h1,h2⟩:=rG (show fV (ex tm x) λ v=>jU tm r λ vs=>K (v::vs) from h);obtain ⟨vs,h3,h4⟩:=mR hr h2;exact ⟨ex tm x::vs,by rw[List.map_cons,List.map_cons,hr.ev rfl h1,h3],h4⟩
theorem Wq {v:AV} (h:A6 v):BA σ v=v:=by
 cases v<;>first|rfl|(simp only[A6]at h)
theorem Wo : ∀ {l:List AV},CW l->l.map (BA σ)=l
 | [],_=>rfl
 | v::r,h=>by
  simp only[CW]at h;rw[List.map_cons,Wq h.1,Wo h.2]
theorem Ve {v:AV} (h:A6 v):BR σ v=v:=by
 cases v with
 | agg cs=>simp only[A6]at h;simp only[BR,Wo h]
 | fn p f g cs=>simp only[A6]at h
 | _=>exact Wq (σ:=σ) h
theorem Wp : ∀ {l:List AV},CW l->l.map (BR σ)=l
 | [],_=>rfl
 | v::r,h=>by
  simp only[CW]at h;rw[List.map_cons,Ve h.1,Wp h.2]
theorem vI {v:AV} (h:A6 v):BI σ v=v:=by
 cases v with
 | m9 cs=>simp only[A6]at h;simp only[BI,Wp h]
 | _=>exact Ve (σ:=σ) h
theorem Afg {I:List AV->Option (AV × AH)} {vs:List AV} {r:AV} (h:KD I vs=some r):A6 r:=by
 unfold KD at h;split at h
 ·split at h
  ·split at h
   ·obtain rfl:=Option.some.inj h
    assumption
   ·cases h
  ·cases h
 ·cases h
theorem Ev.clean {f:Nat} {vs:List AV} {r:AV} (h:Ev L f vs r):A6 r:=by
 obtain ⟨n,h⟩:=h;unfold HK XA at h;split at h
 ·split at h
  ·rename_i r1 r2 h1 h2
   split at h
   ·obtain rfl:=Option.some.inj h
    exact Afg h1
   ·cases h
  ·cases h
 ·exact Afg h
theorem RX.put (h:RX σ tm M st) (d:Nat) {v v':AV} (e:v'=BI σ v):RX σ ((d,v)::tm) M ⟨nn st.tm d v',st.own⟩:=by
 refine ⟨λ j => ?_,h.sat⟩;simp only[tg,oN];cases hb:Nat.beq j d
 ·rw[if_neg (FR.1 hb)];exact h.tm j
 ·rw[if_pos (BN.1 hb)];exact Or.inr e
theorem AeY : ∀ {cs:List AV},nN cs=true->cs.map (BI σ)=cs.map (BA σ)
 | [],_=>rfl
 | v::r,h=>by
  simp only[nN]at h;cases hv:zW v<;>simp only[hv,cond_true,cond_false]at h
  ·cases h
  ·rw[List.map_cons,List.map_cons,AeY h]
   cases v<;>first|rfl|(simp [zW]at hv)
theorem Ak2 {v:AV} (h:GZ v=true):BA σ v=v:=by cases v<;>first|rfl|(simp [GZ]at h)
theorem Yg : ∀ {cs:List AV},cs.all GZ=true->cs.map (BA σ)=cs
 | [],_=>rfl
 | c::r,h=>by
  simp only[List.all_cons,Bool.and_eq_true]at h;rw[List.map_cons,Ak2 h.1,Yg h.2]
theorem Yh : ∀ {vs:List AV},vs.all dq=true->vs.map (BI σ)=vs
 | [],_=>rfl
 | v::r,h=>by
  simp only[List.all_cons,Bool.and_eq_true]at h;rw[List.map_cons,Yh h.2];congr 1;cases v with
  | agg cs=>simp only[BI,BR,Yg (show cs.all GZ=true from h.1)]
  | _=>first|rfl|(simp [dq,GZ]at h)
theorem Aoe {r:AV} (hc:A6 r) (hf:TT r):BI σ (Ch r)=Ch r:=by
 cases r with
 | agg cs =>
  simp only[Ch,BI,BR];congr 1;rw[List.map_map];refine List.map_congr_left λ c pf => ?_
  have:=hf c pf
  cases c<;>first|rfl|exact this.elim
 | _=>first|rfl|exact hf.elim
theorem Aob {c:AV} (h:A6 c):BA σ (IL c)=IL c:=by
 cases c<;>first|(simp only[IL,BA];done)|(simp only[A6]at h;done)
theorem Aoc {r:AV} (h:A6 r) (hd:iY r):BI σ (bW r)=bW r:=by
 cases r with
 | agg cs =>
  simp only[A6]at h;have : ∀ cs:List AV,CW cs->(YC cs).map (BA σ)=YC cs:=by
   intro cs;induction cs with
   | nil=>intro _;simp [YC]
   | cons c l ih =>
    intro h;simp only[CW]at h;rw[YC,List.map_cons,ih h.2,Aob h.1]
  simp only[bW,BI,BR,this cs h]
 | m9=>exact hd.elim
 | fn=>exact hd.elim
 | _=>first|(simp only[bW,IL,BI,BR,BA];done)|(simp only[A6]at h;done)
theorem Aod {r:AV} (h:A6 r) (hd:TT r\/iY r):BI σ (YD r)=YD r:=by
 by_cases hf:TT r
 ·rw[yX hf];exact Aoe h hf
 ·rw[Aev hf];exact Aoc h (hd.resolve_left hf)
theorem Ad6 : ∀ {l:List AV},rJ l=true->l.map (BI σ)=l
 | [],_=>rfl
 | .int _ _::r,h=>by
  rw[List.map_cons,Ad6 (l:=r) h];rfl
theorem Aig {K:AV->Mem->Prop} (hr:RX σ tm M st) {op:D8} (h:XE L tm M g9 K op):BV L tm g9 K op st\/(∃ f xs,op = .call f xs)\/(∃ f xs,op = .m7 f xs)\/(∃ x xs,op = .y7 x xs)\/(∃ f xs,op = .w9 f xs)\/(∃ s f xs,op = .bm s f xs) \/ ∃ s f xs,op = .gj s f xs:=by
 cases op with
 | call f xs=>exact Or.inr (Or.inl ⟨_,_,rfl⟩)
 | m7 f xs=>exact Or.inr (Or.inr (Or.inl ⟨_,_,rfl⟩))
 | y7 x xs=>exact Or.inr (Or.inr (Or.inr (Or.inl ⟨_,_,rfl⟩)))
 | w9 f xs=>exact Or.inr (Or.inr (Or.inr (Or.inr (Or.inl ⟨_,_,rfl⟩))))
 | bm s f xs=>exact Or.inr (Or.inr (Or.inr (Or.inr (Or.inr (Or.inl ⟨_,_,_,rfl⟩)))))
 | gj s f xs=>exact Or.inr (Or.inr (Or.inr (Or.inr (Or.inr (Or.inr ⟨_,_,_,rfl⟩)))))
 | rm s n x v=>exact Or.inl (Ait hr h)
 | xm ne x=>exact Or.inl (Aii hr h)
 | bad=>exact (show False from h).elim
 | ju x=>exact Or.inl (AhR hr h)
 | ru s z b x y=>exact Or.inl (AhL hr h)
 | lu tb x=>exact Or.inl (Air hr h)
 | um p f xs=>exact Or.inl (Ain hr h)
 | wi f x=>exact Or.inl (Aim hr h)
 | c6 x=>exact Or.inl (Aip hr h)
 | ff s z=>exact Or.inl (Aiv hr h)
 | pick c a b=>exact Or.inl (Aiq hr h)
 | bin o x y=>exact Or.inl (AhN hr h)
 | beq ne x y=>exact Or.inl (AhM hr h)
 | wk ne n x y=>exact Or.inl (AhG hr h)
 | un o x=>exact Or.inl (Aiu hr h)
 | conv k x=>exact Or.inl (AhS hr h)
 | box s x=>exact Or.inl (AhO hr h)
 | alloc s z=>exact Or.inl (AhH hr h)
 | build z ps=>exact Or.inl (AhQ hr h)
 | m4 s z ps=>exact Or.inl (AhP hr h)
 | a7 x o=>exact Or.inl (Aie hr h)
 | ry x o n a=>exact Or.inl (Aif hr h)
 | b9 a z x i=>exact Or.inl (Aih hr h)
 | ld a n x=>exact Or.inl (Aij hr h)
 | st n x v=>exact Or.inl (Xl hr h)
 | mk s z b ze l c=>exact Or.inl (Ail hr h)
 | ke z x lo hi=>exact Or.inl (Ais hr h)
 | ext x i=>exact Or.inl (AhT hr h)
 | len x=>exact Or.inl (Aik hr h)
 | mm m xs=>exact Or.inl (Aio hr h)
 | app s z b x y=>exact Or.inl (AhI hr h)
theorem uL {K:AV->Mem->Prop} (hr:RX σ tm M st) {op:D8} {d:Option Nat} {g:Option (Nat × Bool)} {l:List AI} {k:List It} {Q:St->Prop} (h:XE L tm M g9 K op) (hg:FX st g=some true)
  (hk : ∀ σ' v v' M' w8,K v M'->v'=BI σ' v->RX σ' tm M' ⟨st.tm,w8⟩->AO L l k ⟨((⟨st.tm,w8⟩:St).dst d v').tm,w8⟩ Q):AO L (⟨d,op,g,g9⟩::l) k st Q:=by
 rcases Aig hr h with ⟨E,σ',v,M',h1,h2,h3,h4⟩|⟨f,xs,rfl⟩|⟨f,xs,rfl⟩|⟨x,xs,rfl⟩|⟨f,xs,rfl⟩|⟨s,f,xs,rfl⟩|⟨s,f,xs,rfl⟩
 ·rw[Ahd hg h1,uQ]
  have:=hk σ' v _ M' _ h2 h3 h4
  cases d<;>exact this
 ·simp only[XE]at h
  obtain ⟨vs,h1,r,h2,h3⟩:=tJ hr h;rw[Ag3 hg h1 h2];have:=hk σ r r M st.own h3 (vI h2.clean).symm hr
  cases d<;>exact this
 ·simp only[XE]at h
  obtain ⟨vs,h1,h2⟩:=mR hr h;obtain ⟨r,w8,σ',M',h3,h4,h5,h6⟩:=h2 σ st.own hr.sat;rw[<-h1]at h3;rw[Ag5 hg h3];have:=hk σ' r _ M' w8 h6 rfl ⟨λ j=>by rw[h5 j];exact hr.tm j,h4⟩
  cases d<;>exact this
 ·simp only[XE]at h
  split at h
  ·rename_i f g' e1
   obtain ⟨h0,h⟩:=h;obtain ⟨vs,h1,r,h2,h3⟩:=tJ hr h;have e2:=hr.ev e1 (by intro e;cases e);rw[oA,List.map_nil,h0]at e2;rw[Ag6 hg e2 h1 h2];have:=hk σ r r M st.own h3 (vI h2.clean).symm hr
   cases d<;>exact this
  ·rename_i f g' c cs e1
   obtain ⟨h0,h⟩:=h;obtain ⟨v',h1,h,_,_⟩:=tF hr.sat h;obtain ⟨vs,h2,r,h3,h4⟩:=tJ hr h;have e2:=hr.ev e1 (by intro e;cases e);rw[oA,h0]at e2;have h5:(AV.agg (c::cs |>.map (BA σ))::xs.map st.ev).mapM (C8 st.own true)=some (v'::vs):=by
    rw[List.mapM_cons,show C8 st.own true (AV.agg (c::cs |>.map (BA σ)))=some v' from h1,show (xs.map st.ev).mapM (C8 st.own true)=some vs from h2];rfl
   rw[Ag4 hg e2 h5 h3];have:=hk σ r r M st.own h4 (vI h3.clean).symm hr
   cases d<;>exact this
  ·rename_i f g' cs e1
   cases ho:nN cs<;>simp only[ho,cond_true,cond_false]at h;obtain ⟨h0,h⟩:=h;obtain ⟨vs,h1,h2⟩:=mR hr h;rw[IJ]at h2;obtain ⟨r,w8,σ',M',h3,h4,h5,h6⟩:=h2 σ st.own hr.sat;rw[List.map_append,<-h1,AeY (σ:=σ) ho]at h3;have e2:=hr.ev e1 (by intro e;cases e);rw[oA,h0]at e2;rw[Ag9 hg e2 h3];have:=hk σ' r _ M' w8 h6 rfl ⟨λ j=>by rw[h5 j];exact hr.tm j,h4⟩
   cases d<;>exact this
  ·exact h.elim
 ·simp only[XE]at h
  obtain ⟨vs,h1,h2⟩:=mR hr h;cases ho:vs.all dq<;>simp only[ho,cond_true,cond_false]at h2;obtain ⟨r,h3,h4,h5⟩:=h2;have e1:xs.map st.ev=vs:=by rw[h1];exact Yh ho
  rw[Ag7 hg (by rw[e1];exact ho) (by rw[e1];exact h3) h4];have:=hk σ (YD r) (YD r) M st.own h5 (Aod h3.clean h4).symm hr
  cases d<;>exact this
 ·simp only[XE]at h
  cases Iy:E3 s<;>simp only[Iy,cond_true,cond_false]at h;obtain ⟨vs,h1,z,es,n,h2,rfl,h3⟩:=AfY hr h;obtain ⟨k',g1,g2,g3⟩:=H4 h3;refine Ag8 hg h1 h2 ?_;rw[uQ];have:=hk (C7 σ k' λ_=>(s,st.own.n6 s)) _ (.row s (st.own.n6 s) z 0 es.length) _ _ g3 (by simp only[DI,BU]) (hr.kb (q:=s) g1 g2 (.rw z es) trivial rfl (λ_=>Iy))
  cases d<;>exact this
 ·simp only[XE]at h
  obtain ⟨vs,h1,h2⟩:=mR hr h;split at h2
  ·rename_i key rest
   cases hi:rJ rest<;>simp only[hi,cond_true,cond_false]at h2;obtain ⟨cells,kp,kd,n,g1,g2,g3,g4,g5⟩:=h2;have ka:=hr.sat.site _ _ _ g1;have ek:=hr.sat.m5 _ _ _ (EM g1);rw[ka]at ek;simp only[A9.m5,OL g2]at ek;have fq:xs.map st.ev = .ptr s (σ key 0).2 0 0::rest:=by
    rw[h1,List.map_cons,EN,ka,Ad6 hi]
   have hE:=g4 (σ key 0).2 (st.own s) ek;refine Aha hg (by rw[fq];exact hE) ?_;rw[uQ];have:=hk σ (.int kd n) (.int kd n) _ _ g5 rfl (hr.Ur g1 trivial (.bx kp) trivial (λ h=>by cases h))
   simp only[A9.m5,OL g3]at this;cases d<;>exact this
  ·exact h2.elim
theorem AmU (hr:RX σ tm M st) {g:Nat} {w:Bool} {b:Bool} (e:tg tm g = .bool b):FX st (some (g,w))=some (b == w):=by
 rcases hr.tm g with h|h
 ·rw[e]at h;cases h
 ·rw[e]at h
  simp only[FX,h,HQ]
theorem AmV (hr:RX σ tm M st) {g:Nat} {w:Bool} (e:tg tm g = .m9 []):FX st (some (g,w))=some false:=by
 rcases hr.tm g with h|h
 ·rw[e]at h;cases h
 ·rw[e]at h
  simp only[FX,h,NY,List.map_nil]
theorem Nc {key:Nat} : ∀ (tm:Tm) (j:Nat),tg (Hf key tm) j = .any\/tg (Hf key tm) j=tg tm j
 | [],_=>Or.inl rfl
 | (i,v)::r,j=>by
  simp only[Hf];cases hc:dZ key v<;>cases hb:Nat.beq j i;all_goals simp only[cond_true,cond_false,tg,hb]
  ·exact Nc r j
  ·exact Or.inr trivial
  ·exact Nc r j
  ·exact Or.inl trivial
theorem AqX {v:AV} {K:Tm->Prop} (h:xk v tm K) : ∃ fp,(∀ j,tg fp j = .any\/tg fp j=tg tm j)/\K fp:=by
 unfold xk at h;split at h
 ·rw[mW]at h
  exact ⟨_,λ j=>Nc _ j,h⟩
 ·exact ⟨_,λ j=>Or.inr rfl,h⟩
theorem Xn {k:List It} {Q:Tm->Mem->Prop} : ∀ {l:List AI} {K:Tm->Mem->Prop} {tm:Tm} {M:Mem},XO L l K tm M->(∀ fp M',K fp M'->AA L k fp M' Q)->Uu L l k tm M Q
 | [],K,tm,M,h,hk=>λ σ st hr=>Ahb.2 (hk tm M h σ st hr)
 | o::l,K,tm,M,h,hk=>by
  intro σ st hr;have h:XI L o (XO L l) K tm M:=h;have ih : ∀ fp M',XO L l K fp M'->Uu L l k fp M' Q:=λ fp M' h'=>Xn h' hk
  have some_ : ∀ (d:Nat) (op:D8) (g:Option (Nat × Bool)) (g9:List Nat),FX st g=some true->XE L tm M g9 (λ v M=>XO L l K ((d,v)::tm) M) op->AO L (⟨some d,op,g,g9⟩::l) k st (SQ Q):=by
   intro d op g g9 hg hx;refine uL hr hx hg ?_;intro σ' v v' M' w8 h1 h2 h3;exact ih _ _ h1 σ' _ (h3.put d h2)
  have Fw : ∀ (d:Nat) (u:AV) (op:D8) (g9:List Nat),XE L tm M g9 (λ v M=>xk u tm λ tm=>XO L l K ((d,v)::tm) M) op->AO L (⟨some d,op,none,g9⟩::l) k st (SQ Q):=by
   intro d u op g9 hx;refine uL hr hx rfl ?_;intro σ' v v' M' w8 h1 h2 h3;obtain ⟨fp,g1,g2⟩:=AqX h1;exact ih _ _ g2 σ' _ ((show RX σ' fp M' ⟨st.tm,w8⟩ from ⟨λ j=>(g1 j).elim Or.inl λ e=>by rw[e];exact h3.tm j,h3.sat⟩).put d h2)
  have none_ : ∀ (op:D8) (g:Option (Nat × Bool)) (g9:List Nat),FX st g=some true->XE L tm M g9 (λ_ M=>XO L l K tm M) op->AO L (⟨none,op,g,g9⟩::l) k st (SQ Q):=by
   intro op g g9 hg hx;refine uL hr hx hg ?_;intro σ' v v' M' w8 h1 h2 h3;exact ih _ _ h1 σ' _ h3
  have Dw : ∀ (d:Option Nat) (op:D8) (g:Option (Nat × Bool)) (g9:List Nat),FX st g=some false->(match d with|some d=>XO L l K ((d,.m9 [])::tm) M|none=>XO L l K tm M)->AO L (⟨d,op,g,g9⟩::l) k st (SQ Q):=by
   intro d op g g9 hg hx;rw[Ahc hg];cases d with
   | none=>exact ih _ _ hx σ _ hr
   | some d=>exact ih _ _ hx σ _ (hr.put d rfl)
  obtain ⟨d,op,g,g9⟩:=o;cases g with
  | none =>
   cases d with
   | none=>exact none_ op none g9 rfl h
   | some d =>
    cases op with
    | app s z b x y=>exact Fw d (ex tm x) (.app s z b x y) g9 h
    | _=>exact some_ d _ none g9 rfl h
  | some gw =>
   obtain ⟨g,w⟩:=gw;have h:(match tg tm g with
    | .bool b=>fB (b == w) λ c=>match c,d with
     | true,some d=>XE L tm M g9 (λ v M=>XO L l K ((d,v)::tm) M) op
     | true,none=>XE L tm M g9 (λ_ M=>XO L l K tm M) op
     | false,some d=>XO L l K ((d,.m9 [])::tm) M
     | false,none=>XO L l K tm M
    | .m9 []=>match d with
     | some d=>XO L l K ((d,.m9 [])::tm) M
     | none=>XO L l K tm M
    | _=>False):=by cases d<;>cases op<;>exact h
   split at h
   ·rename_i b e
    rw[cY]at h;have hg:=AmU hr (w:=w) e;cases hb:(b == w)<;>rw[hb]at h hg
    ·exact Dw d op _ g9 hg (by cases d<;>exact h)
    ·cases d with
     | none=>exact none_ op _ g9 hg h
     | some d=>exact some_ d op _ g9 hg h
   ·rename_i e
    exact Dw d op _ g9 (AmV hr e) (by cases d<;>exact h)
   ·exact h.elim
theorem Xm {Q:Tm->Mem->Prop} : ∀ {n:Nat} {k:List It} {tm:Tm} {M:Mem},XK L Q n k tm M->AA L k tm M Q
 | 0,k,tm,M,h=>h
 | n+1,[],tm,M,h=>λ σ st hr=>AgX.2 ⟨σ,tm,M,hr,h⟩
 | n+1,it::k,tm,M,h=>by
  have h:XS L Q (XK L Q n) (it::k) tm M:=h;have ih : ∀ k tm M,XK L Q n k tm M->AA L k tm M Q:=λ k tm M h=>Xm h
  intro σ st hr;cases it with
  | m5 id=>exact AgP.2 (ih _ _ _ h σ st hr)
  | oc ts ss =>
   simp only[XS,AmF,mW]at h;cases ss with
   | cons s r=>exact h.elim
   | nil =>
    refine AgT.2 (ih _ _ _ h σ _ ⟨λ j => ?_,hr.sat⟩);rw[oK,kX,Vu,uV,Bool.false_or];cases hc:ts.contains j
    ·simp only[Bool.false_eq_true,if_false,cond_false]
     exact hr.tm j
    ·exact Or.inl rfl
  | lp c=>exact h σ st hr
  | code c =>
   cases c with
   | skip=>exact Ag2.2 (ih _ _ _ h σ st hr)
   | ops l d=>exact AgY.2 (Xn h (λ fp M' h'=>ih _ _ _ h') σ st hr)
   | dr c ts ss=>exact AgS.2 (ih _ _ _ h σ st hr)
   | scope c=>exact Ag0.2 (ih _ _ _ h σ st hr)
   | seq a b=>exact Ag1.2 (ih _ _ _ h σ st hr)
   | cond x a b =>
    simp only[XS]at h;split at h
    ·rename_i b' e
     rw[cY]at h;rw[AgR (hr.ev e (by intro e;cases e))];cases b'
     ·simpa using ih _ _ _ h σ st hr
     ·simpa using ih _ _ _ h σ st hr
    ·exact h.elim
   | block id c=>exact AgQ.2 (ih _ _ _ h σ st hr)
   | loop c=>exact AgV.2 (Vb.1 (h σ st hr))
   | exit id =>
    simp only[XS]at h;split at h
    ·rename_i k' e
     exact (AgU e).2 (ih _ _ _ h σ st hr)
    ·exact h.elim
   | ret=>exact AgZ.2 ⟨σ,tm,M,hr,h⟩
theorem Apr (hr:RX σ tm M st) {r:O3} {K:AV->Prop} (h:nY tm M r K) : ∃ v,FG st r=some (BI σ v)/\K v/\BI σ v=BR σ v:=by
 cases r with
 | tmp t =>
  simp only[nY]at h;obtain ⟨h1,h2,h3⟩:=Adk (σ:=σ) h;refine ⟨_,?_,h3,h2⟩;rcases hr.tm t with e|e
  ·exact absurd e h1
  ·simp only[FG,e]
   cases hv:tg tm t<;>rw[hv]at h h1<;>first|rfl|exact (h:False).elim
 | cell t agg n =>
  simp only[nY]at h;split at h
  ·rename_i key i j e
   split at h
   ·rename_i s cs hm
    cases hi:Nat.beq i 0<;>simp only[hi,cond_true,cond_false]at h;obtain rfl:=BN.1 hi;split at h
    ·rename_i ds hp
     rw[IJ]at h;rcases hr.tm t with e'|e'
     ·rw[e]at e';cases e'
     ·have hs:=hr.sat.site _ _ _ hm
      have ek:=hr.sat.m5 _ _ _ (EM hm);rw[hs]at ek;have flat : ∀ v,W9 agg (ds.map (BA σ))=some (BI σ v)->FG st (.cell t agg n)=some (BI σ v):=by
       intro v hv;simp only[FG,e',e,EN,AH.uj,AH.get,hs,ek,A9.m5,List.getElem?_cons_zero,sI hp,hv]
      cases agg
      ·simp only[wj]at h
       split at h
       ·rename_i c
        obtain ⟨_,h1,h2⟩:=Adl (σ:=σ) h;refine ⟨c,flat c (by rw[h1];rfl),h2,?_⟩;rw[h1];cases c<;>first|rfl|exact (h:False).elim
       ·exact h.elim
      ·exact ⟨.agg ds,flat _ rfl,h,rfl⟩
    ·exact h.elim
   ·exact h.elim
  ·exact h.elim
theorem Ob (hr:RX σ tm M st) : ∀ {l:List O3} {K:List AV->Prop},sO tm M l K -> ∃ vs,l.mapM (FG st)=some (vs.map (BI σ))/\K vs/\vs.map (BI σ)=vs.map (BR σ)
 | [],K,h=>⟨[],rfl,h,rfl⟩
 | r::l,K,h=>by
  obtain ⟨v,h1,h2,h3⟩:=Apr hr (show nY tm M r λ v=>sO tm M l λ vs=>K (v::vs) from h);obtain ⟨vs,h4,h5,h6⟩:=Ob hr h2;exact ⟨v::vs,by rw[List.mapM_cons,h1,h4];rfl,h5,by rw[List.map_cons,List.map_cons,h3,h6]⟩
theorem AfS (hs:TW σ st.own M) {q:Bool} : ∀ {l:List AV} {K:List AV->Prop},Mp q M l K -> ∃ l',(l.map (BI σ)).mapM (C8 st.own q)=some l'/\K l' /\ ∀ v∈l,BI σ v=BR σ v
 | [],K,h=>⟨[],rfl,h,λ v hv=>by cases hv⟩
 | v::r,K,h=>by
  obtain ⟨v',h1,h2,_,h0⟩:=tF hs (show dN q M [] v λ v'=>Mp q M r λ r'=>K (v'::r') from h);obtain ⟨l',h3,h4,h5⟩:=AfS hs h2;refine ⟨v'::l',?_,h4,λ u hu => ?_⟩
  ·rw[List.map_cons,List.mapM_cons,show C8 st.own q (BI σ v)=some v' from h1,h3];rfl
  ·rcases List.mem_cons.1 hu with rfl|hu
   ·exact h0
   ·exact h5 u hu
theorem Ap4 {own:AH} {q:Bool} {v v':AV} (h:C8 own q v=some v'):fO own q v=some v':=by
 cases v with
 | m9 vs=>simp [C8,snap]at h
 | _=>exact h
theorem Aoi {f:AV->Option AV} {x y:AV} {r l':List AV} (h:(x::y::r).mapM f=some l') : ∃ a b c,l'=a::b::c:=by
 rw[List.mapM_cons,List.mapM_cons]at h;cases hx:f x with
 | none=>rw[hx]at h;cases h
 | some a =>
  cases hy:f y with
  | none=>rw[hx,hy]at h;cases h
  | some b =>
   cases hr:r.mapM f with
   | none=>rw[hx,hy,hr]at h;cases h
   | some c =>
    rw[hx,hy,hr]at h;exact ⟨a,b,c,(Option.some.inj h).symm⟩
theorem Xk {fn:AFn} {r:AV} (hr:RX σ tm M st) (h:dW fn r tm M):lM fn r st:=by
 unfold dW at h;obtain ⟨vs,h1,h2,h3⟩:=Ob hr h;obtain ⟨l',h4,h5,h6⟩:=AfS hr.sat h2;unfold lM;rw[h1,Option.map_some,Option.bind_some];match vs,l',h4,h5 with
 | [],l',h4,h5 =>
  obtain rfl:=Option.some.inj h4;obtain ⟨e,hc⟩:=h5;exact ⟨by rw[<-e];rfl,hc⟩
 | [v],l',h4,h5 =>
  rw[List.map_cons,List.map_nil,List.mapM_cons]at h4;cases hv:C8 st.own false (BI σ v) with
  | none=>rw[hv]at h4;cases h4
  | some v' =>
   rw[hv]at h4;obtain rfl:=Option.some.inj h4;obtain ⟨e,hc⟩:=h5;exact ⟨by rw[<-e];exact Ap4 hv,hc⟩
 | v::u::w,l',h4,h5 =>
  obtain ⟨a,b,c,rfl⟩:=Aoi (show List.mapM (C8 st.own false) (BI σ v::BI σ u::w.map (BI σ))=some l' from h4);obtain ⟨e,hc⟩:=h5;refine ⟨?_,hc⟩;rw[<-e];have h4:List.mapM (C8 st.own false) (BI σ v::BI σ u::w.map (BI σ))=some (a::b::c):=h4;show Option.map AV.m9 (List.mapM (C8 st.own false) (BI σ v::BI σ u::w.map (BI σ)))=_;rw[h4];rfl
def eB:AV->Bool
 | .agg cs=>EG cs
 | v=>yi v
def U1:List AV->Bool
 | []=>true
 | v::r=>bif eB v then U1 r else false
theorem qN {v:AV} (h:eB v=true):BI σ v=v:=by
 cases v with
 | agg cs=>simp only[eB]at h;simp only[BI,BR,OL h]
 | _=>first|rfl|cases h
theorem mG {σ:F5} : ∀ {vs:List AV} {i:Nat},U1 vs=true -> ∀ j,m8 (C0 i vs) j=BI σ (m8 (C0 i vs) j)
 | [],_,_,_=>rfl
 | v::r,i,h,j=>by
  simp only[U1]at h;cases hv:eB v<;>simp only[hv,cond_true,cond_false]at h
  ·cases h
  ·simp only[Ano,oM]
   split
   ·exact (qN hv).symm
   ·exact mG h j
theorem GA.x {f:Nat} {fn:AFn} {vs:List AV} {r:AV} (hL:L f=some fn) (hp:Nat.beq vs.length fn.fo=true) (hd:U1 vs=true) (h:AA L [.code fn.body] (C0 0 vs) [] (dW fn r)):GA L f vs r:=by
 refine GA.fwd hL (BN.1 hp) (AgW (h (λ_ _=>(0,0)) ⟨C0 0 vs,AH.emp⟩ ⟨λ j=>Or.inr ?_,?_⟩) ?_)
 ·rw[S0];exact mG hd j
 ·exact ⟨(λ_ _ _ e=>by cases e),(λ_ _ _ e=>by simp [g8,l6]at e),(λ_ _ _ e=>by simp [g8,l6]at e),(λ_ _ _ _ _ _ e=>by simp [g8,l6]at e),(λ_ _ _ e=>by simp [g8,l6]at e)⟩
 ·rintro s ⟨σ,tm,M,hr,hq⟩
  exact Xk hr hq
theorem Ev.x {f:Nat} {fn:AFn} {vs:List AV} {r:AV} (hL:L f=some fn) (hp:Nat.beq vs.length fn.fo=true) (hd:U1 vs=true) (h:AA L [.code fn.body] (C0 0 vs) [] (dW fn r)) (hs:fn.uq=false:=by rfl):Ev L f vs r:=(GA.x hL hp hd h).ev hL hs
def GE:List (Nat × Nat)->Nat->Nat
 | [],k=>k
 | (a,b)::r,k=>bif Nat.beq k a then b else GE r k
def sR (τ:List (Nat × Nat)):AV->AV
 | .row k t z o n => .row (GE τ k) t z o n
 | .ptr k t i j => .ptr (GE τ k) t i j
 | v=>v
def fH (τ:List (Nat × Nat)):List AV->List AV
 | []=>[]
 | v::r=>sR τ v::fH τ r
def kT (τ:List (Nat × Nat)):AV->AV
 | .agg cs => .agg (fH τ cs)
 | .fn p f g cs => .fn p f g (fH τ cs)
 | v=>sR τ v
def sT (τ:List (Nat × Nat)):List AV->List AV
 | []=>[]
 | v::r=>kT τ v::sT τ r
def sS (τ:List (Nat × Nat)):AV->AV
 | .m9 cs => .m9 (sT τ cs)
 | v=>kT τ v
def sU (τ:List (Nat × Nat)):List (List AV)->List (List AV)
 | []=>[]
 | v::r=>fH τ v::sU τ r
def SG (τ:List (Nat × Nat)):A9->A9
 | .bx cs => .bx (fH τ cs)
 | .rw z es => .rw z es
 | .bs z es => .bs z (sU τ es)
 | .mx rows => .mx rows
 | .hx i v rows => .hx i v rows
 | .vw w rows => .vw w rows
variable {τ:List (Nat × Nat)}
theorem nZ : ∀ l:List AV,fH τ l=l.map (sR τ)
 | []=>rfl
 | v::r=>by rw[fH,nZ r];rfl
theorem Aft : ∀ l:List AV,sT τ l=l.map (kT τ)
 | []=>rfl
 | v::r=>by rw[sT,Aft r];rfl
theorem tL (v:AV):BA (λ k t=>σ (GE τ k) t) v=BA σ (sR τ v):=by cases v<;>rfl
theorem Na (v:AV):BR (λ k t=>σ (GE τ k) t) v=BR σ (kT τ v):=by
 cases v with
 | agg cs=>simp only[BR,kT,nZ,List.map_map];exact congrArg AV.agg (List.map_congr_left λ v _=>tL v)
 | fn p f g cs=>simp only[BR,kT,nZ,List.map_map];exact congrArg (AV.fn p f g) (List.map_congr_left λ v _=>tL v)
 | _=>rfl
theorem Aqa (v:AV):BI (λ k t=>σ (GE τ k) t) v=BI σ (sS τ v):=by
 cases v with
 | m9 cs=>simp only[BI,sS,Aft,List.map_map];exact congrArg AV.m9 (List.map_congr_left λ v _=>Na v)
 | agg cs=>exact Na (.agg cs)
 | fn p f g cs=>exact Na (.fn p f g cs)
 | _=>rfl
theorem Afu : ∀ l:List (List AV),sU τ l=l.map (fH τ)
 | []=>rfl
 | v::r=>by rw[sU,Afu r];rfl
theorem nJ {k:Nat} : ∀ (rows:List (Option (Nat × List (List AV)))) (i:Nat),B9 (λ k t=>σ (GE τ k) t) k i rows=B9 σ (GE τ k) i rows
 | [],i=>rfl
 | none::r,i=>by rw[B9,B9,nJ r]
 | some (z,es)::r,i=>by rw[B9,B9,nJ r]
theorem AiO (c:A9) (k:Nat):c.m5 (λ k t=>σ (GE τ k) t) k=(SG τ c).m5 σ (GE τ k):=by
 cases c with
 | bx cs =>
  simp only[A9.m5,SG,nZ,List.length_map,List.map_map];rw[List.map_congr_left λ v _=>tL v];rfl
 | rw z es=>rfl
 | bs z es =>
  simp only[A9.m5,SG,Afu,List.map_map];congr 1;refine List.map_congr_left λ cs _ => ?_
  simp only[Function.comp,nZ,List.map_map];exact List.map_congr_left λ v _=>tL v
 | mx rows=>simp only[A9.m5,SG,nJ]
 | hx i v rows=>simp only[A9.m5,SG,nJ]
 | vw w rows=>simp only[A9.m5,SG,nJ]
def Ck (k s:Nat) (c:A9):Mem->Mem
 | []=>[(k,s,c)]
 | (j,s',c')::r=>bif Nat.beq k j then (k,s,c)::r else (j,s',c')::Ck k s c r
def uk:Mem->Mem
 | []=>[]
 | (k,s,c)::r=>Ck k s c (uk r)
theorem Aez (k s:Nat) (c:A9) (j:Nat) : ∀ M:Mem,l6 (Ck k s c M) j=bif Nat.beq j k then some (s,c) else l6 M j
 | []=>rfl
 | (i,s',c')::r=>by
  simp only[Ck];cases hk:Nat.beq k i
  ·simp only[cond_false,l6,Aez k s c j r]
   cases hj:Nat.beq j i<;>cases hjk:Nat.beq j k<;>simp only[cond_true,cond_false];exact absurd ((BN.1 hjk).symm.trans (BN.1 hj)) (FR.1 hk)
  ·obtain rfl:=BN.1 hk
   simp only[cond_true,l6];cases Nat.beq j k<;>rfl
theorem kD (j:Nat) : ∀ M:Mem,l6 (uk M) j=l6 M j
 | []=>rfl
 | (k,s,c)::r=>by simp only[uk,Aez,kD j r,l6]
theorem rO (k t:Nat):g8 (uk M) k t=g8 M k t:=by simp only[g8,kD]
def Ci (τ:List (Nat × Nat)) (M:Mem):List (Nat × Nat × A9)->List (Option (Nat × A9))
 | []=>[]
 | (k,_,_)::r=>l6 M (GE τ k)::Ci τ M r
def Cj (τ:List (Nat × Nat)):List (Nat × Nat × A9)->List (Option (Nat × A9))
 | []=>[]
 | (_,s,c)::r=>some (s,SG τ c)::Cj τ r
def Mh (tm:Tm):Tm->List AV
 | []=>[]
 | (j,_)::r=>tg tm j::Mh tm r
def Mi (τ:List (Nat × Nat)):Tm->List AV
 | []=>[]
 | (_,v)::r=>sS τ v::Mi τ r
def rS:List Nat->Bool
 | []=>true
 | k::r=>bif dF k r then false else rS r
def keys (τ:List (Nat × Nat)):Mem->List Nat
 | []=>[]
 | (k,_,_)::r=>GE τ k::keys τ r
theorem Aey : ∀ {M':Mem} {M:Mem},Ci τ M M'=Cj τ M' -> ∀ k s c,l6 M' k=some (s,c)->l6 M (GE τ k)=some (s,SG τ c)
 | [],_,_,_,_,_,e=>by cases e
 | (i,s',c')::r,M,h,k,s,c,e=>by
  simp only[Ci,Cj,List.cons.injEq]at h;simp only[l6]at e;cases hb:Nat.beq k i<;>simp only[hb,cond_true,cond_false]at e
  ·exact Aey h.2 k s c e
  ·simp only[Option.some.injEq,Prod.mk.injEq]at e
   obtain ⟨rfl,rfl⟩:=e;rw[BN.1 hb];exact h.1
theorem zC : ∀ {M:Mem} {k s:Nat} {c:A9},l6 M k=some (s,c)->dF (GE τ k) (keys τ M)=true
 | (i,s',c')::r,k,s,c,e=>by
  simp only[l6]at e;simp only[keys,dF];cases hb:Nat.beq k i<;>simp only[hb,cond_true,cond_false]at e
  ·rw[zC e];cases Nat.beq (GE τ k) (GE τ i)<;>rfl
  ·rw[BN.1 hb];simp
theorem AeQ : ∀ {M:Mem},rS (keys τ M)=true -> ∀ {k k' s s':Nat} {c c':A9},l6 M k=some (s,c)->l6 M k'=some (s',c')->GE τ k=GE τ k'->k=k'
 | [],_,_,_,_,_,_,_,e,_,_=>by cases e
 | (i,s0,c0)::r,h,k,k',s,s',c,c',e,e',hk=>by
  simp only[keys,rS]at h;cases hm:dF (GE τ i) (keys τ r)<;>simp only[hm,cond_true,cond_false]at h
  ·simp only[l6]at e e'
   cases hb:Nat.beq k i<;>cases s9:Nat.beq k' i<;>simp only[hb,s9,cond_true,cond_false]at e e'
   ·exact AeQ h e e' hk
   ·obtain rfl:=BN.1 s9
    have:=zC (τ:=τ) e
    rw[hk,hm]at this;cases this
   ·obtain rfl:=BN.1 hb
    have:=zC (τ:=τ) e'
    rw[<-hk,hm]at this;cases this
   ·exact (BN.1 hb).trans (BN.1 s9).symm
  ·cases h
theorem Agm : ∀ {fp:Tm} {tm:Tm},Mh tm fp=Mi τ fp -> ∀ j,tg fp j = .any\/tg tm j=sS τ (tg fp j)
 | [],_,_,_=>Or.inl rfl
 | (i,v)::r,tm,h,j=>by
  simp only[Mh,Mi,List.cons.injEq]at h;simp only[tg];cases hb:Nat.beq j i<;>simp only[cond_true,cond_false]
  ·exact Agm h.2 j
  ·rw[BN.1 hb];exact Or.inr h.1
def eg (ts:List Nat) (tm:Tm):Tm:=match ts with
 | []=>tm
 | t::ts=>Ay (mask 0 (t::ts)) tm
def bH (τ:List (Nat × Nat)) (tm:Tm) (M:Mem) (fp:Tm) (M':Mem):Prop :=
 fT (Ay 0 fp) λ l=>fM (uk M') λ m=>Mh tm l=Mi τ l/\Ci τ M m=Cj τ m/\rS (keys τ m)=true
theorem B3 {k:List It} {fp:Tm} {M':Mem} {Q:Tm->Mem->Prop} (τ:List (Nat × Nat)) (he:bH τ tm M fp M') (h:AA L k fp M' Q):AA L k tm M Q:=by
 unfold bH at he;rw[mW,XP]at he;obtain ⟨ht,hm,hn⟩:=he;intro σ st hr;have hg : ∀ k s c,l6 M' k=some (s,c)->l6 M (GE τ k)=some (s,SG τ c):=λ k s c e=>Aey hm k s c (by rw[kD];exact e)
 have vn : ∀ k t c,g8 M' k t=some c->g8 M (GE τ k) t=some (SG τ c):=by
  intro k t c e;obtain ⟨s,c0,g1,g2,g3⟩:=J4 e;have:=hg k s c0 g1
  cases t with
  | zero=>rw[g2 rfl];exact EM this
  | succ i =>
   obtain ⟨rows,z,es,(rfl|⟨a,v,rfl⟩)|⟨w,rfl⟩,hr,rfl⟩:=g3 i rfl
   ·simp [g8,this,SG,hr]
   ·simp [g8,this,SG,hr]
   ·simp [g8,this,SG,hr]
 refine h (λ k t=>σ (GE τ k) t) st ⟨λ j => ?_,⟨?_,?_,?_,?_,?_⟩⟩
 ·have:=Agm ht j
  rw[oK,uV,cond_false]at this;rcases this with e|e
  ·exact Or.inl e
  ·rcases hr.tm j with e'|e'
   ·left
    rw[e']at e;cases hv:tg fp j<;>rw[hv]at e<;>first|rfl|cases e
   ·right
    rw[e',e,Aqa]
 ·intro k s c e;exact hr.sat.site _ _ _ (hg k s c e)
 ·intro k t c e;rw[AiO];exact hr.sat.m5 _ _ _ (vn k t c e)
 ·intro k t c e;exact hr.sat.old _ _ _ (vn k t c e)
 ·intro k t k' t' c c' e e' hk
  obtain ⟨q1,q2⟩:=hr.sat.inj _ _ _ _ _ _ (vn _ _ _ e) (vn _ _ _ e') hk;obtain ⟨s,c0,g,_⟩:=J4 e;obtain ⟨s',c0',g',_⟩:=J4 e';exact ⟨AeQ hn (by rw[kD];exact g) (by rw[kD];exact g') q1,q2⟩
 ·intro k t c e hw
  exact hr.sat.low _ _ _ (vn k t c e) (by cases c<;>exact hw)
theorem BL {k:List It} {fp:Tm} {M':Mem} {Q:Tm->Mem->Prop} (τ:List (Nat × Nat)) (h:AA L k fp M' Q) (he:bH τ tm M fp M':=by (conv=>whnf);exact ⟨rfl,rfl,rfl⟩):AA L k tm M Q:=B3 τ he h
theorem AgI {k:List It} {Q:Tm->Mem->Prop} (h:AA L k (Ay 0 tm) (uk M) Q):AA L k tm M Q:=by
 intro σ st hr;refine h σ st ⟨λ j => ?_,⟨?_,?_,?_,?_,?_⟩⟩
 ·rw[oK,uV,cond_false];exact hr.tm j
 ·intro k s c e;rw[kD]at e;exact hr.sat.site _ _ _ e
 ·intro k t c e;rw[rO]at e;exact hr.sat.m5 _ _ _ e
 ·intro k t c e;rw[rO]at e;exact hr.sat.old _ _ _ e
 ·intro k t k' t' c c' e e' hk
  rw[rO]at e e';exact hr.sat.inj _ _ _ _ _ _ e e' hk
 ·intro k t c e hw;rw[rO]at e;exact hr.sat.low _ _ _ e hw
theorem G9 {k:List It} {c:BJ} {Q:Tm->Mem->Prop} (h:AA L (.code c :: .lp c::k) tm M Q):AA L (.lp c::k) tm M Q:=λ σ st hr=>Vb.2 (h σ st hr)
theorem iX {α:Type} {k:List It} {c:BJ} {Q:Tm->Mem->Prop} (m:α->Nat) (P:α->Prop) (vs:α->Tm) (Ms:α->Mem) (ts:List Nat) (τ:List (Nat × Nat)) (a:α)
  (he:bH τ tm M (vs a++eg ts tm) (Ms a++M)) (hp:P a)
  (step : ∀ a,P a->(∀ a',m a'<m a->P a'->AA L (.lp c::k) (vs a'++eg ts tm) (Ms a'++M) Q)->AA L (.code c :: .lp c::k) (vs a++eg ts tm) (Ms a++M) Q):AA L (.lp c::k) tm M Q:=by
 have key : ∀ n a,m a<n->P a->AA L (.lp c::k) (vs a++eg ts tm) (Ms a++M) Q:=by
  intro n;induction n with
  | zero=>intro a h;omega
  | succ n ih =>
   intro a ha hp;exact G9 (step a hp λ a' h1 h2=>ih a' (by omega) h2)
 exact B3 τ he (key (m a+1) a (by omega) hp)
end
end Go.e9
namespace Go.e9
section
variable {α:Type} {enc:α->List AV} {l:List α} {L:Lib}
theorem AG {p q A B:Prop} (h1:p->A) (h2:q->B):AF p q A B:=⟨h1,h2⟩
theorem A0 {p A:Prop} (h1:p) (h2:A):AM p A:=⟨h1,h2⟩
section
variable {K:AV->Prop} {a b:Int} {k k':IntKind} {op:BinOp}
theorem pD {v:AV} (h:DW op k a k' b=some v) (hk:K v):AC op k a k' b K:=⟨v,h,hk⟩
theorem AX (hr : -9223372036854775808<=a+b/\a+b<=9223372036854775807) (hk:K (.int .i64 (a+b))):AC .add .i64 a .i64 b K:=⟨_,by simp only[DW,if_true];rw[IntWalk.i64_in _ hr],hk⟩
theorem CB (hr : -9223372036854775808<=a-b/\a-b<=9223372036854775807) (hk:K (.int .i64 (a-b))):AC .sub .i64 a .i64 b K:=⟨_,by simp only[DW,if_true];rw[IntWalk.i64_in _ hr],hk⟩
theorem E0 (hr : -9223372036854775808<=a*b/\a*b<=9223372036854775807) (hk:K (.int .i64 (a*b))):AC .mul .i64 a .i64 b K:=⟨_,by simp only[DW,if_true];rw[IntWalk.i64_in _ hr],hk⟩
theorem gA (hb:0<b) (h1:(0<=a\/a%b=0)->0<=a%b->a%b<b->K (.int .i64 (a%b))) (h2:a<0->a%b≠0->0<=a%b->a%b<b->K (.int .i64 (a%b-b))):AC .rem .i64 a .i64 b K:=by
 have h5:0<=a%b:=Int.emod_nonneg _ (by omega);have h6:a%b<b:=Int.emod_lt_of_pos _ hb;have e:DW .rem .i64 a .i64 b=some (.int .i64 (a.tmod b)):=by simp only[DW];rw[if_pos ⟨trivial,by omega⟩]
 by_cases hc:0<=a\/a%b=0
 ·rw[Agn hb,if_pos hc]at e
  exact ⟨_,e,h1 hc h5 h6⟩
 ·rw[Agn hb,if_neg hc]at e
  exact ⟨_,e,h2 (by omega) (by omega) h5 h6⟩
theorem dU (hb:0<b) (ha : -9223372036854775808<=a/\a<=9223372036854775807) (h1:(0<=a\/a%b=0)->K (.int .i64 (a/b))) (h2:a<0->a%b≠0->K (.int .i64 (a/b+1))):AC .quo .i64 a .i64 b K:=by
 have hr:=Ak9 (m:=b) (by omega) ha;have e:DW .quo .i64 a .i64 b=some (.int .i64 (IntKind.i64.wrap (a.tdiv b))):=by simp only[DW];rw[if_pos ⟨trivial,by omega⟩]
 by_cases hc:0<=a\/a%b=0
 ·rw[Agl hb,if_pos hc,IntWalk.i64_in _ hr]at e
  exact ⟨_,e,h1 hc⟩
 ·have AFR:a/b<0:=Int.ediv_neg_of_neg_of_pos (by omega) hb
  rw[Agl hb,if_neg hc,IntWalk.i64_in _ (by omega)]at e;exact ⟨_,e,h2 (by omega) (by omega)⟩
theorem Ahv (h:0<=b/\b<=63) (hk:K (.int .i64 (a/pw b))):AC .shr .i64 a k' b K:=⟨_,ApS h,hk⟩
theorem Ahx (hk:K (.int k (k.wrap (a+b)))):AC .add k a k b K:=⟨_,by simp only[DW,if_true],hk⟩
theorem CK.neg (hr : -9223372036854775808 <= -a /\ -a<=9223372036854775807) (hk:K (.int .i64 (-a))):CK .neg .i64 a K:=⟨_,by simp only[fQ];rw[show (0:Int)-a = -a by omega,IntWalk.i64_in _ hr],hk⟩
theorem CK.go {op:UnOp} {v:AV} (h:fQ op (.int k a)=some v) (hk:K v):CK op k a K:=⟨v,h,hk⟩
end
theorem lF {k:IntKind} {n:Int} {K:Int->Prop} (e:k.wrap n=n) (h:K n):AR k n K:=by unfold AR;rw[e];exact h
theorem CP {n:Int} {K:Int->Prop} (hr:0<=n/\n<=18446744073709551615) (h:K n):AR .u64 n K:=lF (IntWalk.u64_in _ hr) h
theorem fU {n:Int} {K:Int->Prop} (hr : -9223372036854775808<=n/\n<=9223372036854775807) (h:K n):AR .i64 n K:=lF (IntWalk.i64_in _ hr) h
theorem BH {a:Int} {z:Nat} {K:List AV->Prop} {e:α} (he:l[a.toNat]? = some e) (h0:0<=a) (hz:(enc e).length=z) (h:K (enc e)):AW (l.map enc) a z K:=⟨h0,enc e,by simp [he],hz,h⟩
theorem uJ {a:Int} {z:Nat} {K:List AV->Prop} (h0:0<=a/\a<l.length) (hz : ∀ e,(enc e).length=z) (h : ∀ e,l[a.toNat]? = some e->K (enc e)):AW (l.map enc) a z K:=by
 have he:l[a.toNat]? = some (l[a.toNat]'(by omega)):=zE _;exact BH he h0.1 (hz _) (h _ he)
theorem AhA {n z:Nat} {K:List AV->Prop} (hn:n<l.length) (hz : ∀ e,(enc e).length=z) (h : ∀ e,l[n]? = some e->K (enc e)):AW (l.map enc) (n:Int) z K :=
 uJ ⟨by omega,by omega⟩ hz h
theorem O5 {i j n:Nat} {K:List AV->Prop} {f:α->List AV} (hi:i<l.length) (hp : ∀ e,part (enc e) j n=some (f e)) (h : ∀ e,l[i]? = some e->K (f e)):BD (l.map enc) (0+((i:Int)).toNat) j n K:=by
 have he:l[i]? = some l[i]:=zE _;rw[Nat.zero_add,Int.toNat_natCast];exact ⟨enc l[i],f l[i],by simp [he],hp _,h _ he⟩
theorem oX {i:Int} {j n:Nat} {K:List AV->Prop} {f:α->List AV} (hi:0<=i/\i<l.length) (hp : ∀ e,part (enc e) j n=some (f e)) (h : ∀ e,l[i.toNat]? = some e->K (f e)):BD (l.map enc) (0+i.toNat) j n K:=by
 have hl:i.toNat<l.length:=by omega
 have he:l[i.toNat]? = some l[i.toNat]:=zE _;rw[Nat.zero_add];exact ⟨enc l[i.toNat],f l[i.toNat],by rw[List.getElem?_map,he];rfl,hp _,h _ he⟩
theorem FP {i:Nat} {vs:List AV} {K:List (List AV)->Prop} (e:α) (he:vs=enc e) (hz : ∀ x,(enc x).length=vs.length) (hi:i<l.length) (h:K ((l.set i e).map enc)):A7 (l.map enc) (0+((i:Int)).toNat) 0 vs K:=by
 rw[Nat.zero_add,Int.toNat_natCast];refine ⟨enc l[i],by simp [zE hi],by rw[hz];omega,?_⟩;rw[show splice (enc l[i]) 0 vs=vs by simp [splice,<-hz l[i]],he,<-List.map_set];exact h
theorem oV {i j n:Nat} {K:List AV->Prop} {e:α} {ds:List AV} (he:l[i]? = some e) (hp:part (enc e) j n=some ds) (h:K ds):BD (l.map enc) i j n K:=⟨enc e,ds,by simp [he],hp,h⟩
theorem Ap9 {cs vs:List AV} (h:cs.length=vs.length):splice cs 0 vs=vs:=by
 simp [splice,<-h]
theorem AhF {i:Nat} {vs:List AV} {K:List (List AV)->Prop} (e:α) (he:vs=enc e) (hz : ∀ x,(enc x).length=vs.length) (hi:i<l.length) (h:K ((l.set i e).map enc)):A7 (l.map enc) i 0 vs K:=by
 refine ⟨enc l[i],by simp [zE hi],by rw[hz];omega,?_⟩;rw[Ap9 (hz _),he,<-List.map_set];exact h
theorem EK {a b:Int} {bytes:Nat} {zero:List AV} {K:List (List AV)->Nat->Prop} (x:α) (n:Nat) (hx:zero=enc x) (hn:a=n) (hr:a<=b/\b*bytes<=140737488355328/\b<=9223372036854775807) (h:K ((List.replicate n x).map enc) n):BW a b bytes zero K:=by
 subst hn hx;refine ⟨⟨by omega,hr.1,by simpa [DX] using hr.2.1,hr.2.2⟩,?_⟩;simpa using h
theorem AU {K:Nat->Prop} (h:K l.length):AQ (l.map enc) K:=by unfold AQ;simpa using h
theorem E6 {len z bytes:Nat} {vs:List AV} {K:List (List AV)->Nat->Prop} (e:α) (he:vs=enc e) (hl:len=l.length) (hz:vs.length=z) (hr:(l.length+1)*bytes<=140737488355328) (iu:l.length+1<=9223372036854775807) (h:K ((l++[e]).map enc) (l++[e]).length):BT (l.map enc) len [vs] z bytes K:=by
 subst hl;refine ⟨by simp,by simpa using hz,by simpa [DX] using hr,by simpa using iu,?_⟩;rw[List.take_of_length_le (by simp)];simpa [he] using h
theorem uA {len z bytes:Nat} {l':List α} {K:List (List AV)->Nat->Prop} (hl:len=l.length) (hz : ∀ x,(enc x).length=z) (hr:(l.length+l'.length)*bytes<=140737488355328) (iu:l.length+l'.length<=9223372036854775807) (h:K ((l++l').map enc) (l++l').length):BT (l.map enc) len (l'.map enc) z bytes K:=by
 subst hl;refine ⟨by simp,by simp [hz],by simpa [DX] using hr,by simpa using iu,?_⟩;rw[List.take_of_length_le (by simp)];simpa using h
theorem lE {z bytes:Nat} {vs:List AV} {K:List (List AV)->Nat->Prop} (e:α) (he:vs=enc e) (hz:vs.length=z) (hb:bytes<=140737488355328) (h:K ([e].map enc) 1):CD [vs] z bytes K :=
 ⟨by simpa using hz,by simpa [DX] using hb,by simp,by simpa [he] using h⟩
theorem dP {z bytes:Nat} {K:List (List AV)->Nat->Prop} (hz : ∀ x,(enc x).length=z) (hr:l.length*bytes<=140737488355328) (iu:l.length<=9223372036854775807) (h:K (l.map enc) l.length):CD (l.map enc) z bytes K :=
 ⟨by simp [hz],by simpa [DX] using hr,by simpa using iu,by simpa using h⟩
theorem pK {off len:Nat} {K:List (List AV)->Prop} (hl:off+len<=l.length) (h:K (((l.drop off).take len).map enc)):BP (l.map enc) off len K :=
 ⟨by simpa using hl,by rw[<-List.map_drop,<-List.map_take];exact h⟩
theorem zV : ∀ {e:List AV},F7 e=true->Y6 e=true/\e.map nl=e
 | [],_=>⟨rfl,rfl⟩
 | v::r,h=>by
  have hv:F7 r=true:=by cases v<;>simp only[F7]at h<;>first|cases h|exact h
  obtain ⟨h1,h2⟩:=zV hv;cases v<;>simp only[F7]at h<;>first|cases h|exact ⟨h1,by rw[List.map_cons,h2];rfl⟩
theorem AeT : ∀ {es:List (List AV)},(∀ e∈es,F7 e=true)->es.map (λ e=>e.map nl)=es
 | [],_=>rfl
 | e::r,h=>by rw[List.map_cons,(zV (h e List.mem_cons_self)).2,AeT λ x hx=>h x (List.mem_cons_of_mem _ hx)]
theorem lP {es:List (List AV)} {off len:Nat} {K:List (List AV)->Prop} (hl:off+len<=es.length) (hz : ∀ e∈es,F7 e=true) (h:K ((es.drop off).take len)):A4 es off len K :=
 ⟨hl,λ e he=>(zV (hz e he)).1,by rw[AeT λ e he=>hz e (List.mem_of_mem_drop (List.mem_of_mem_take he))];exact h⟩
theorem DR {off len:Nat} {K:List (List AV)->Prop} (hz : ∀ x,F7 (enc x)=true) (ho:off=0) (hl:len=l.length) (h:K (l.map enc)):A4 (l.map enc) off len K:=by
 subst hl ho;refine lP (by simp) (λ e he => ?_) (by rw[List.drop_zero,List.take_of_length_le (by simp)];exact h);obtain ⟨x,_,rfl⟩:=List.mem_map.1 he;exact hz x
theorem IZ {off len:Nat} {K:List (List AV)->Prop} (hz : ∀ x,F7 (enc x)=true) (hl:off+len<=l.length) (h:K (((l.drop off).take len).map enc)):A4 (l.map enc) off len K:=by
 refine lP (by simpa using hl) (λ e he => ?_) (by rw[<-List.map_drop,<-List.map_take];exact h);obtain ⟨x,_,rfl⟩:=List.mem_map.1 he;exact hz x
theorem EL {e:List AV} {K:List (List AV)->Prop} (h:K [e]):BP [e] 0 1 K:=⟨by simp,h⟩
theorem H6 {e:List AV} {K:List (List AV)->Prop} (h0:F7 e=true) (h:K [e]):A4 [e] 0 1 K:=lP (by simp) (by simpa using h0) h
theorem jE {e e':List AV} {K:List (List AV)->Prop} (h0:F7 e=true) (h1:F7 e'=true) (h:K [e,e']):A4 [e,e'] 0 2 K:=lP (by simp) (by simpa using ⟨h0,h1⟩) h
section
variable {β:Type} {z:Nat} {ll:List (List β)} {en:β->List AV}
abbrev B7 (z:Nat) (en:β->List AV) (ll:List (List β)):List (Option (Nat × List (List AV))):=ll.map λ r=>some (z,r.map en)
theorem bI {i:Nat} {K:Option (Nat × List (List AV))->Prop} (hi:i<ll.length) (h : ∀ r,ll[i]? = some r->K (some (z,r.map en))):B4 (B7 z en ll) (0+((i:Int)).toNat) K:=by
 have he:ll[i]? = some ll[i]:=zE _;exact ⟨_,by rw[Nat.zero_add,Int.toNat_natCast,List.getElem?_map,he];rfl,h _ he⟩
theorem Ahl {i:Nat} {K:Nat->List (List AV)->Prop} {r:List β} (hr:ll[i]? = some r) (h:K z (r.map en)):BK (B7 z en ll) i K :=
 ⟨z,r.map en,by rw[List.getElem?_map,hr];rfl,h⟩
theorem dR {i:Nat} {K:Nat->List (List AV)->Prop} {r:List β} (hr:ll[i]? = some r) (h:K z (r.map en)):BK (B7 z en ll) (0+((i:Int)).toNat) K:=by
 rw[Nat.zero_add,Int.toNat_natCast];exact Ahl hr h
theorem uI {i:Nat} {r r':List β} {K:List (Option (Nat × List (List AV)))->Prop} (hl:r'.length=r.length) (h:K (B7 z en (ll.set i r'))):CI (B7 z en ll) (0+((i:Int)).toNat) z (r.map en) (r'.map en) K:=by
 rw[Nat.zero_add,Int.toNat_natCast];exact ⟨by simpa using hl,by simpa [B7,List.map_set] using h⟩
theorem Vc {len bytes:Nat} {r:List β} {K:List (Option (Nat × List (List AV)))->Nat->Prop} (hl:len=ll.length) (hr:(ll.length+1)*bytes<=140737488355328) (iu:ll.length+1<=9223372036854775807) (h:K (B7 z en (ll++[r])) (ll++[r]).length):CX (B7 z en ll) len (some (z,r.map en)) bytes K:=by
 subst hl;exact ⟨by simp,by simpa [DX] using hr,iu,by simpa [B7] using h⟩
theorem Afx (q:Bool) : ∀ ll:List (List β),fJ q (B7 z en ll)=ll.map λ r=>[AV.sl q (r.map en)]
 | []=>rfl
 | r::l=>by simp only[B7,List.map_cons,fJ];rw[show fJ q (l.map λ r=>some (z,r.map en))=_ from Afx q l]
theorem UN {q:Bool} {off len:Nat} {K:List (List AV)->Prop} (hz : ∀ x,F7 (en x)=true) (ho:off=0) (hl:len=ll.length) (h:K (ll.map λ r=>[AV.sl q (r.map en)])):CJ q (B7 z en ll) off len K:=by
 refine ⟨ho,by simpa using hl,λ z' es hm e he => ?_,by rw[Afx];exact h⟩;obtain ⟨r,_,hr⟩:=List.mem_map.1 hm;simp only[Option.some.injEq,Prod.mk.injEq]at hr;obtain ⟨rfl,rfl⟩:=hr;obtain ⟨x,_,rfl⟩:=List.mem_map.1 he;exact hz x
end
theorem Ahf {len:Nat} {a:Int} {K:Nat->Nat->Prop} (h0:0<=a/\a<=len) (h:K a.toNat len):BO (some a) none len K:=⟨a.toNat,len,⟨h0.1,rfl⟩,rfl,by omega,h⟩
theorem Vd {len:Nat} {b:Int} {K:Nat->Nat->Prop} (h0:0<=b/\b<=len) (h:K 0 b.toNat):BO none (some b) len K:=⟨0,b.toNat,rfl,⟨h0.1,h0.2,rfl⟩,by omega,h⟩
theorem cH {len:Nat} {a b:Int} {K:Nat->Nat->Prop} (h0:0<=a/\a<=b/\b<=len) (h:K a.toNat b.toNat):BO (some a) (some b) len K:=⟨a.toNat,b.toNat,⟨h0.1,rfl⟩,⟨by omega,by omega,rfl⟩,by omega,h⟩
theorem uK {z:Nat} {lo hi:Option Int} {K:List (List AV)->Prop} (hz : ∀ x,(enc x).length=z) (h:BO lo hi l.length λ a h=>K (((l.take h).drop a).map enc)):CE z (l.map enc) lo hi K:=by
 refine ⟨by simp [hz],?_⟩;rw[List.length_map];obtain ⟨a,b,h1,h2,h3,h4⟩:=h;refine ⟨a,b,h1,h2,h3,?_⟩;show K _;rw[<-List.map_take,<-List.map_drop];exact h4
theorem gB {z k:Nat} {K:List (List AV)->Prop} (hz : ∀ x,(enc x).length=z) (hk:k<=l.length) (h:K ((l.take k).map enc)):CE z (l.map enc) none (some (k:Int)) K :=
 uK hz (Vd (by omega) (by simpa using h))
theorem AhE {z k:Nat} {K:List (List AV)->Prop} (hz : ∀ x,(enc x).length=z) (hk:k<=l.length) (h:K ((l.drop k).map enc)):CE z (l.map enc) (some (k:Int)) none K :=
 uK hz (Ahf (by omega) (by simpa using h))
theorem AD {f:Nat} {vs:List AV} {K:AV->Prop} {r:AV} (h:Ev L f vs r) (hk:K r):AB L f vs K:=⟨r,h,hk⟩
theorem Wr {f:Nat} {vs:List AV} {K:AV->Prop} {p:Prop} [Decidable p] (h:Ev L f vs (.bool (decide p))) (h1:p->K (.bool true)) (h2 : ¬ p->K (.bool false)):AB L f vs K:=by
 refine ⟨_,h,?_⟩;by_cases e:p
 ·rw[decide_eq_true e];exact h1 e
 ·rw[decide_eq_false e];exact h2 e
theorem AY {a r:AV} (h:a=r) (hc:A6 r):AJ a r:=⟨h,hc⟩
theorem JR {a r:Bool} (h:a=r):AJ (.bool a) (.bool r):=⟨by rw[h],by simp [A6]⟩
theorem Ahk {p:Prop} [Decidable p] (h:p):AJ (.bool true) (.bool (decide p)):=⟨by simp [h],by simp [A6]⟩
theorem Ww {p:Prop} [Decidable p] (h : ¬ p):AJ (.bool false) (.bool (decide p)):=⟨by simp [h],by simp [A6]⟩
theorem DC {k:IntKind} {a b:Int} (h:a=b):AJ (.int k a) (.int k b):=⟨by rw[h],by simp [A6]⟩
theorem jM (h : ∀ x,CW (enc x)) : ∀ l:List α,F2 (l.map enc)
 | []=>by simp [F2]
 | x::r=>by rw[List.map_cons,F2];exact ⟨h x,jM h r⟩
end
theorem B6 {α:Type} {L:Lib} {k:List It} {cd:BJ} {tm:Tm} {M:Mem} {Q:Tm->Mem->Prop} (m:α->Nat) (P:α->Prop) (vs:α->Tm) (Ms:α->Mem) (ts:List Nat) (τ:List (Nat × Nat)) (a:α)
  (he:bH τ tm M (vs a++eg ts tm) (Ms a++M)) (hp:P a)
  (step : ∀ a,P a->(∀ a',m a'<m a->P a'->AA L (.lp cd::k) (vs a'++eg ts tm) (Ms a'++M) Q)->AA L (.code cd :: .lp cd::k) (vs a++eg ts tm) (Ms a++M) Q):AA L (.lp cd::k) tm M Q :=
 iX (α:=α) (λ x=>m x) (λ x=>P x) (λ x=>vs x) (λ x=>Ms x) ts τ a he hp λ a h ih=>step a h λ a' h1 h2=>ih a' h1 h2
theorem G8 {α β:Type} {L:Lib} {k:List It} {cd:BJ} {tm:Tm} {M:Mem} {Q:Tm->Mem->Prop} (m:α->β->Nat) (P:α->β->Prop) (vs:α->β->Tm) (Ms:α->β->Mem) (ts:List Nat) (τ:List (Nat × Nat)) (a:α) (b:β)
  (he:bH τ tm M (vs a b++eg ts tm) (Ms a b++M)) (hp:P a b)
  (step : ∀ a b,P a b->(∀ a' b',m a' b'<m a b->P a' b'->AA L (.lp cd::k) (vs a' b'++eg ts tm) (Ms a' b'++M) Q)->AA L (.code cd :: .lp cd::k) (vs a b++eg ts tm) (Ms a b++M) Q):AA L (.lp cd::k) tm M Q :=
 iX (α:=α × β) (λ x=>m x.1 x.2) (λ x=>P x.1 x.2) (λ x=>vs x.1 x.2) (λ x=>Ms x.1 x.2) ts τ (a,b) he hp λ⟨a,b⟩ h ih=>step a b h λ a' b' h1 h2=>ih (a',b') h1 h2
theorem GT {α β γ:Type} {L:Lib} {k:List It} {cd:BJ} {tm:Tm} {M:Mem} {Q:Tm->Mem->Prop} (m:α->β->γ->Nat) (P:α->β->γ->Prop) (vs:α->β->γ->Tm) (Ms:α->β->γ->Mem) (ts:List Nat) (τ:List (Nat × Nat)) (a:α) (b:β) (c:γ)
  (he:bH τ tm M (vs a b c++eg ts tm) (Ms a b c++M)) (hp:P a b c)
  (step : ∀ a b c,P a b c->(∀ a' b' c',m a' b' c'<m a b c->P a' b' c'->AA L (.lp cd::k) (vs a' b' c'++eg ts tm) (Ms a' b' c'++M) Q)->AA L (.code cd :: .lp cd::k) (vs a b c++eg ts tm) (Ms a b c++M) Q):AA L (.lp cd::k) tm M Q :=
 iX (α:=α × β × γ) (λ x=>m x.1 x.2.1 x.2.2) (λ x=>P x.1 x.2.1 x.2.2) (λ x=>vs x.1 x.2.1 x.2.2) (λ x=>Ms x.1 x.2.1 x.2.2) ts τ (a,b,c) he hp λ⟨a,b,c⟩ h ih=>step a b c h λ a' b' c' h1 h2=>ih (a',b',c') h1 h2
theorem Uv {α β γ δ:Type} {L:Lib} {k:List It} {cd:BJ} {tm:Tm} {M:Mem} {Q:Tm->Mem->Prop} (m:α->β->γ->δ->Nat) (P:α->β->γ->δ->Prop) (vs:α->β->γ->δ->Tm) (Ms:α->β->γ->δ->Mem) (ts:List Nat) (τ:List (Nat × Nat)) (a:α) (b:β) (c:γ) (d:δ)
  (he:bH τ tm M (vs a b c d++eg ts tm) (Ms a b c d++M)) (hp:P a b c d)
  (step : ∀ a b c d,P a b c d->(∀ a' b' c' d',m a' b' c' d'<m a b c d->P a' b' c' d'->AA L (.lp cd::k) (vs a' b' c' d'++eg ts tm) (Ms a' b' c' d'++M) Q)->AA L (.code cd :: .lp cd::k) (vs a b c d++eg ts tm) (Ms a b c d++M) Q):AA L (.lp cd::k) tm M Q :=
 iX (α:=α × β × γ × δ) (λ x=>m x.1 x.2.1 x.2.2.1 x.2.2.2) (λ x=>P x.1 x.2.1 x.2.2.1 x.2.2.2) (λ x=>vs x.1 x.2.1 x.2.2.1 x.2.2.2) (λ x=>Ms x.1 x.2.1 x.2.2.1 x.2.2.2) ts τ (a,b,c,d) he hp λ⟨a,b,c,d⟩ h ih=>step a b c d h λ a' b' c' d' h1 h2=>ih (a',b',c',d') h1 h2
theorem AgJ {α β γ δ ε:Type} {L:Lib} {k:List It} {cd:BJ} {tm:Tm} {M:Mem} {Q:Tm->Mem->Prop} (m:α->β->γ->δ->ε->Nat) (P:α->β->γ->δ->ε->Prop) (vs:α->β->γ->δ->ε->Tm) (Ms:α->β->γ->δ->ε->Mem) (ts:List Nat) (τ:List (Nat × Nat)) (a:α) (b:β) (c:γ) (d:δ) (e:ε)
  (he:bH τ tm M (vs a b c d e++eg ts tm) (Ms a b c d e++M)) (hp:P a b c d e)
  (step : ∀ a b c d e,P a b c d e->(∀ a' b' c' d' e',m a' b' c' d' e'<m a b c d e->P a' b' c' d' e'->AA L (.lp cd::k) (vs a' b' c' d' e'++eg ts tm) (Ms a' b' c' d' e'++M) Q)->AA L (.code cd :: .lp cd::k) (vs a b c d e++eg ts tm) (Ms a b c d e++M) Q):AA L (.lp cd::k) tm M Q :=
 iX (α:=α × β × γ × δ × ε) (λ x=>m x.1 x.2.1 x.2.2.1 x.2.2.2.1 x.2.2.2.2) (λ x=>P x.1 x.2.1 x.2.2.1 x.2.2.2.1 x.2.2.2.2) (λ x=>vs x.1 x.2.1 x.2.2.1 x.2.2.2.1 x.2.2.2.2) (λ x=>Ms x.1 x.2.1 x.2.2.1 x.2.2.2.1 x.2.2.2.2) ts τ (a,b,c,d,e) he hp λ⟨a,b,c,d,e⟩ h ih=>step a b c d e h λ a' b' c' d' e' h1 h2=>ih (a',b',c',d',e') h1 h2
theorem AgK {α β γ δ ε ζ:Type} {L:Lib} {k:List It} {cd:BJ} {tm:Tm} {M:Mem} {Q:Tm->Mem->Prop} (m:α->β->γ->δ->ε->ζ->Nat) (P:α->β->γ->δ->ε->ζ->Prop) (vs:α->β->γ->δ->ε->ζ->Tm) (Ms:α->β->γ->δ->ε->ζ->Mem) (ts:List Nat) (τ:List (Nat × Nat)) (a:α) (b:β) (c:γ) (d:δ) (e:ε) (f:ζ)
  (he:bH τ tm M (vs a b c d e f++eg ts tm) (Ms a b c d e f++M)) (hp:P a b c d e f)
  (step : ∀ a b c d e f,P a b c d e f->(∀ a' b' c' d' e' f',m a' b' c' d' e' f'<m a b c d e f->P a' b' c' d' e' f'->AA L (.lp cd::k) (vs a' b' c' d' e' f'++eg ts tm) (Ms a' b' c' d' e' f'++M) Q)->AA L (.code cd :: .lp cd::k) (vs a b c d e f++eg ts tm) (Ms a b c d e f++M) Q):AA L (.lp cd::k) tm M Q :=
 iX (α:=α × β × γ × δ × ε × ζ) (λ x=>m x.1 x.2.1 x.2.2.1 x.2.2.2.1 x.2.2.2.2.1 x.2.2.2.2.2) (λ x=>P x.1 x.2.1 x.2.2.1 x.2.2.2.1 x.2.2.2.2.1 x.2.2.2.2.2) (λ x=>vs x.1 x.2.1 x.2.2.1 x.2.2.2.1 x.2.2.2.2.1 x.2.2.2.2.2) (λ x=>Ms x.1 x.2.1 x.2.2.1 x.2.2.2.1 x.2.2.2.2.1 x.2.2.2.2.2) ts τ (a,b,c,d,e,f) he hp λ⟨a,b,c,d,e,f⟩ h ih=>step a b c d e f h λ a' b' c' d' e' f' h1 h2=>ih (a',b',c',d',e',f') h1 h2
theorem AE {L:Lib} {Q:Tm->Mem->Prop} {c:BJ} {k:List It} {tm:Tm} {M:Mem} (h:fT (Ay 0 tm) λ tm=>fM (uk M) λ M=>XK L Q 500 (.code c::k) tm M):AA L (.code c::k) tm M Q:=by
 rw[mW,XP]at h;exact AgI (Xm h)
end Go.e9

namespace Go.e9
variable {L:Lib}
def CQ (N:Nat):AP->Bool
 | .t n=>Nat.blt n N
 | .c _=>true
def nO (N:Nat):D8->Bool
 | .c6 x=>CQ N x
 | .ff _ _=>true
 | .pick c a b=>CQ N c&&(CQ N a&&CQ N b)
 | .bin _ x y=>CQ N x&&CQ N y
 | .beq _ x y=>CQ N x&&CQ N y
 | .un _ x=>CQ N x
 | .conv _ x=>CQ N x
 | .box _ x=>CQ N x
 | .alloc _ _=>true
 | .build _ ps=>ps.all λ p=>CQ N p.2.2
 | .m4 _ _ ps=>ps.all (CQ N)
 | .a7 x _=>CQ N x
 | .ry x _ _ _=>CQ N x
 | .b9 _ _ x i=>CQ N x&&CQ N i
 | .ld _ _ x=>CQ N x
 | .st _ x v=>CQ N x&&CQ N v
 | .mk _ _ _ _ l c=>CQ N l&&CQ N c
 | .ke _ x lo hi=>CQ N x&&((lo.all (CQ N))&&(hi.all (CQ N)))
 | .ext x _=>CQ N x
 | .len x=>CQ N x
 | .mm _ xs=>xs.all (CQ N)
 | .app _ _ _ x y=>CQ N x&&CQ N y
 | .call _ xs=>xs.all (CQ N)
 | .m7 _ xs=>xs.all (CQ N)
 | .xm _ x=>CQ N x
 | .lu _ x=>CQ N x
 | .bad=>true
 | .ju x=>CQ N x
 | .ru _ _ _ x y=>CQ N x&&CQ N y
 | .um _ _ xs=>xs.all (CQ N)
 | .wi _ x=>CQ N x
 | .y7 x xs=>CQ N x&&xs.all (CQ N)
 | .w9 _ xs=>xs.all (CQ N)
 | .bm _ _ xs=>xs.all (CQ N)
 | .gj _ _ xs=>xs.all (CQ N)
 | .wk _ _ x y=>CQ N x&&CQ N y
 | .rm _ _ x v=>CQ N x&&CQ N v
def lQ (N:Nat) (a:AI):Bool:=(a.dst.all λ d=>Nat.blt d N)&&((a.guard.all λ g=>Nat.blt g.1 N)&&nO N a.op)
def JV (N:Nat):BJ->Bool
 | .skip=>true
 | .ops l _=>l.all (lQ N)
 | .dr c ts _=>JV N c&&ts.all λ t=>Nat.blt t N
 | .scope c=>JV N c
 | .seq a b=>JV N a&&JV N b
 | .cond c a b=>CQ N c&&(JV N a&&JV N b)
 | .block _ c=>JV N c
 | .loop c=>JV N c
 | .exit _=>true
 | .ret=>true
def eL (N:Nat):It->Bool
 | .code c=>JV N c
 | .oc ts _=>ts.all λ t=>Nat.blt t N
 | .m5 _=>true
 | .lp c=>JV N c
structure Gh (N:Nat) (G T T':Tm):Prop where
 lo : ∀ j,j<N->m8 T' j=m8 T j
 hi : ∀ j,N<=j->m8 T' j=m8 G j
variable {N:Nat} {G:Tm}
theorem gG {a b:Nat}:Nat.blt a b=true↔a<b:=by simp [Nat.blt];omega
theorem Gh.ev {st:St} {T':Tm} {o:AH} (h:Gh N G st.tm T') {x:AP} (hx:CQ N x=true):St.ev ⟨T',o⟩ x=st.ev x:=by
 cases x with
 | t n=>exact h.lo n (gG.1 hx)
 | c v=>rfl
theorem iB {f g:AP->AV} {xs:List AP} (h : ∀ x,CQ N x=true->f x=g x) (hx:xs.all (CQ N)=true):xs.map f=xs.map g:=by
 apply List.map_congr_left;intro x hm;exact h x (List.all_eq_true.1 hx x hm)
theorem Alb {C:Cl} {g9:List Nat} {ρ ρ':AP->AV} {own:AH} (h : ∀ x,CQ N x=true->ρ' x=ρ x) : ∀ (op:D8),nO N op=true->m6 C g9 ρ' own op=m6 C g9 ρ own op:=by
 intro op s8;cases op;case build zero ps =>
  have:(ps.map λ p=>(p.1,p.2.1,ρ' p.2.2))=ps.map λ p=>(p.1,p.2.1,ρ p.2.2):=by
   apply List.map_congr_left;intro p hm;rw[h _ (List.all_eq_true.1 s8 p hm)]
  simp only[m6,this]
 case m4 s c7 ps =>
  have:ps.mapM (λ x=>cellsOf (ρ' x))=ps.mapM (λ x=>cellsOf (ρ x)):=by
   have yb:ps.all (CQ N)=true:=s8;clear s8;induction ps with
   | nil=>rfl
   | cons p r ih =>
    simp only[List.all_cons,Bool.and_eq_true]at yb;simp only[List.mapM_cons,h _ yb.1,ih yb.2]
  simp only[m6,this]
 case mm m xs=>simp only[m6,iB h s8]
 case call f xs=>simp only[m6,iB h s8]
 case m7 f xs=>simp only[m6,iB h s8]
 case um p f xs =>
  have:xs.mapM (λ x=>G4 (ρ' x))=xs.mapM (λ x=>G4 (ρ x)):=by
   have yb:xs.all (CQ N)=true:=s8;clear s8;induction xs with
   | nil=>rfl
   | cons p r ih =>
    simp only[List.all_cons,Bool.and_eq_true]at yb;simp only[List.mapM_cons,h _ yb.1,ih yb.2]
  simp only[m6,this]
 case w9 f xs=>simp only[m6,iB h s8]
 case bm s f xs=>simp only[m6,iB h s8]
 case gj s f xs=>simp only[m6,iB h s8]
 case y7 x xs =>
  simp only[nO,Bool.and_eq_true]at s8;simp only[m6,iB h s8.2,h _ s8.1]
 case ke c7 x lo hi =>
  simp only[nO,Bool.and_eq_true]at s8;obtain ⟨h1,h2,h3⟩:=s8;cases lo<;>cases hi<;>simp only[Option.all_some,Option.all_none]at h2 h3<;>simp only[m6,h _ h1,h _,h2,h3]
 all_goals (simp only[nO,Bool.and_eq_true]at s8;simp only[m6,h _,s8])
theorem Gh.dst {T T':Tm} (h:Gh N G T T') {d:Nat} (hd:d<N) (v:AV):Gh N G (nn T d v) (nn T' d v):=by
 constructor
 ·intro j hj
  rw[oN,oN,h.lo j hj]
 ·intro j hj
  rw[oN,h.hi j hj,if_neg (by omega)]
theorem Gh.tp {T T':Tm} {o:AH} (h:Gh N G T T') {d:Option Nat} (hd:(d.all λ d=>Nat.blt d N)=true) (v:AV):((⟨T',o⟩:St).dst d v).own=((⟨T,o⟩:St).dst d v).own/\Gh N G ((⟨T,o⟩:St).dst d v).tm ((⟨T',o⟩:St).dst d v).tm:=by
 cases d with
 | none=>exact ⟨rfl,h⟩
 | some d=>exact ⟨rfl,h.dst (gG.1 hd) v⟩
theorem Aqb {C:Cl} {a:AI} (ha:lQ N a=true) {T T':Tm} {o:AH} (h:Gh N G T T') {s':St} (hs:C9 C a ⟨T',o⟩=some s') : ∃ s,C9 C a ⟨T,o⟩=some s/\s'.own=s.own/\Gh N G s.tm s'.tm:=by
 simp only[lQ,Bool.and_eq_true]at ha;obtain ⟨h1,h2,h3⟩:=ha;have hg:FX ⟨T',o⟩ a.guard=FX ⟨T,o⟩ a.guard:=by
  cases hgg:a.guard with
  | none=>rfl
  | some g =>
   rw[hgg]at h2;simp only[FX,h.lo _ (gG.1 h2)]
 have he:=Alb (C:=C) (g9:=a.g9) (own:=o) (ρ:=St.ev ⟨T,o⟩) (ρ':=St.ev ⟨T',o⟩) (λ x hx=>Gh.ev (st:=⟨T,o⟩) h hx) a.op h3;unfold C9 at hs ⊢;rw[hg,he]at hs;cases Gn:FX ⟨T,o⟩ a.guard with
 | none=>rw[Gn]at hs;cases hs
 | some b =>
  rw[Gn]at hs;cases b with
  | false =>
   simp only[Option.some.injEq]at hs ⊢;subst hs;exact ⟨_,rfl,h.tp h1 _⟩
  | true =>
   simp only at hs ⊢;cases sf:m6 C a.g9 (St.ev ⟨T,o⟩) o a.op with
   | none=>rw[sf]at hs;cases hs
   | some e =>
    rw[sf]at hs;simp only[Option.map_some,Option.some.injEq]at hs ⊢;subst hs;refine ⟨_,rfl,?_⟩;cases e with
    | val v=>exact h.tp h1 v
    | new s b v=>exact ⟨rfl,(h.tp (o:=o) h1 _).2⟩
    | Cm s b v=>exact ⟨rfl,(h.tp (o:=o) h1 _).2⟩
    | jc v o'=>exact ⟨rfl,(h.tp (o:=o) h1 _).2⟩
    | bg s x=>exact ⟨rfl,(h.tp (o:=o) h1 _).2⟩
    | Aw s x v=>exact ⟨rfl,(h.tp (o:=o) h1 _).2⟩
theorem Aga {C:Cl} : ∀ {l:List AI},l.all (lQ N)=true -> ∀ {T T':Tm} {o:AH},Gh N G T T' -> ∀ {s':St},DE C l ⟨T',o⟩=some s' -> ∃ s,DE C l ⟨T,o⟩=some s/\s'.own=s.own/\Gh N G s.tm s'.tm
 | [],_,T,T',o,h,s',hs=>by
  simp only[DE,Option.some.injEq]at hs;subst hs;exact ⟨_,rfl,rfl,h⟩
 | a::l,ha,T,T',o,h,s',hs=>by
  simp only[List.all_cons,Bool.and_eq_true]at ha;simp only[DE]at hs;cases h1:C9 C a ⟨T',o⟩ with
  | none=>rw[h1]at hs;cases hs
  | some s1 =>
   rw[h1]at hs;obtain ⟨s2,e1,e2,e3⟩:=Aqb ha.1 h h1;obtain ⟨T1,o1⟩:=s1;obtain ⟨T2,o2⟩:=s2;simp only at e2 e3;subst e2;obtain ⟨s3,f1,f2,f3⟩:=Aga ha.2 e3 hs;exact ⟨s3,by simp only[DE,e1,f1],f2,f3⟩
theorem mU {id:Nat} : ∀ {k k':List It},k.all (eL N)=true->D6 id k=some k'->k'.all (eL N)=true
 | [],_,_,h=>by simp [D6]at h
 | it::k,k',hk,h=>by
  simp only[List.all_cons,Bool.and_eq_true]at hk;cases it with
  | m5 i =>
   simp only[D6]at h;split at h
   ·cases h;exact hk.2
   ·exact mU hk.2 h
  | code c=>simp only[D6]at h;exact mU hk.2 h
  | oc a b=>simp only[D6]at h;exact mU hk.2 h
  | lp c=>simp only[D6]at h;exact mU hk.2 h
theorem LB {C:Cl} : ∀ (n:Nat) {k:List It},k.all (eL N)=true -> ∀ {T T':Tm} {o:AH},Gh N G T T' -> ∀ {s':St},run C n k ⟨T',o⟩=some s' -> ∃ s,run C n k ⟨T,o⟩=some s/\s'.own=s.own/\Gh N G s.tm s'.tm
 | 0,k,_,T,T',o,_,s',hs=>by simp [run]at hs
 | n+1,[],_,T,T',o,h,s',hs=>by
  simp only[run,Option.some.injEq]at hs ⊢;subst hs;exact ⟨_,rfl,rfl,h⟩
 | n+1,.m5 _::k,hk,T,T',o,h,s',hs=>by
  simp only[List.all_cons,Bool.and_eq_true]at hk;simp only[run]at hs ⊢;exact LB n hk.2 h hs
 | n+1,.oc ts ss::k,hk,T,T',o,h,s',hs=>by
  simp only[List.all_cons,Bool.and_eq_true]at hk;simp only[run]at hs ⊢;refine LB n hk.2 ⟨λ j hj => ?_,λ j hj => ?_⟩ hs
  ·rw[kX,kX,h.lo j hj]
  ·rw[kX,h.hi j hj,if_neg]
   intro hc;have:=List.all_eq_true.1 hk.1 j (by simpa using hc)
   have:=gG.1 this
   omega
 | n+1,.lp c::k,hk,T,T',o,h,s',hs=>by
  simp only[run]at hs ⊢;have ml:=hk;simp only[List.all_cons,Bool.and_eq_true]at hk;exact LB n (by simp only[List.all_cons,Bool.and_eq_true];exact ⟨hk.1,hk.1,hk.2⟩) h hs
 | n+1,.code c::k,hk,T,T',o,h,s',hs=>by
  simp only[List.all_cons,Bool.and_eq_true]at hk;obtain ⟨hc,hk⟩:=hk;cases c with
  | skip=>simp only[run]at hs ⊢;exact LB n hk h hs
  | ops l d =>
   simp only[run]at hs ⊢;cases h1:DE C l ⟨T',o⟩ with
   | none=>rw[h1]at hs;cases hs
   | some s1 =>
    rw[h1]at hs;obtain ⟨s2,e1,e2,e3⟩:=Aga (show l.all (lQ N)=true from hc) h h1;obtain ⟨T1,o1⟩:=s1;obtain ⟨T2,o2⟩:=s2;simp only at e2 e3;subst e2;rw[e1];exact LB n hk e3 hs
  | dr c ts ss =>
   simp only[run]at hs ⊢;simp only[eL,JV,Bool.and_eq_true]at hc;exact LB n (by simp only[List.all_cons,Bool.and_eq_true];exact ⟨hc.1,hc.2,hk⟩) h hs
  | scope c =>
   simp only[run]at hs ⊢;exact LB n (by simp only[List.all_cons,Bool.and_eq_true];exact ⟨hc,hk⟩) h hs
  | seq a b =>
   simp only[run]at hs ⊢;simp only[eL,JV,Bool.and_eq_true]at hc;exact LB n (by simp only[List.all_cons,Bool.and_eq_true];exact ⟨hc.1,hc.2,hk⟩) h hs
  | cond x a b =>
   simp only[eL,JV,Bool.and_eq_true]at hc;simp only[run,Gh.ev (st:=⟨T,o⟩) h hc.1]at hs ⊢;cases hx:St.ev ⟨T,o⟩ x<;>rw[hx]at hs<;>try (simp at hs;done)
   rename_i q;cases q
   ·exact LB n (by simp only[List.all_cons,Bool.and_eq_true];exact ⟨hc.2.2,hk⟩) h hs
   ·exact LB n (by simp only[List.all_cons,Bool.and_eq_true];exact ⟨hc.2.1,hk⟩) h hs
  | block id c =>
   simp only[run]at hs ⊢;exact LB n (by simp only[List.all_cons,Bool.and_eq_true];exact ⟨hc,rfl,hk⟩) h hs
  | loop c =>
   simp only[run]at hs ⊢;exact LB n (by simp only[List.all_cons,Bool.and_eq_true];exact ⟨hc,hc,hk⟩) h hs
  | exit id =>
   simp only[run]at hs ⊢;cases he:D6 id k with
   | none=>rw[he]at hs;cases hs
   | some k' =>
    rw[he]at hs;exact LB n (mU hk he) h hs
  | ret =>
   simp only[run,Option.some.injEq]at hs ⊢;subst hs;exact ⟨_,rfl,rfl,h⟩
def GS (N:Nat):Tm->Tm
 | []=>[]
 | (i,v)::r=>(N+i,v)::GS N r
def gh (N:Nat):Tm->Tm
 | []=>[]
 | (i,v)::r=>bif Nat.ble N i then (Nat.sub i N,v)::gh N r else gh N r
theorem Ni (N j:Nat) : ∀ T:Tm,m8 (GS N T) (N+j)=m8 T j
 | []=>rfl
 | (i,v)::r=>by
  have ih:=Ni N j r;simp only[GS,m8,ih];by_cases h:j=i
  ·simp [h]
  ·rw[if_neg h,if_neg (by omega)]
theorem Nj {N j:Nat} (hj:j<N) : ∀ T:Tm,m8 (GS N T) j = .any
 | []=>rfl
 | (i,v)::r=>by
  simp only[GS,m8,Nj hj r];rw[if_neg (by omega)]
theorem Nf (N j:Nat) : ∀ T:Tm,m8 (gh N T) j=m8 T (N+j)
 | []=>rfl
 | (i,v)::r=>by
  have ih:=Nf N j r;simp only[gh];cases h:Nat.ble N i
  ·have h1 : ¬ N<=i:=λ e=>by rw[Nat.ble_eq_true_of_le e]at h;cases h
   simp only[cond,m8,ih];rw[if_neg (by omega)]
  ·have h1:=Nat.le_of_ble_eq_true h
   simp only[cond,m8,ih];by_cases h2:j=i-N
   ·rw[if_pos (show j=Nat.sub i N from h2),if_pos (by omega)]
   ·rw[if_neg (show ¬ j=Nat.sub i N from h2),if_neg (by omega)]
def YE (f:AV->AV):Tm->Tm
 | []=>[]
 | (i,v)::r=>(i,f v)::YE f r
theorem S3 {f:AV->AV} (hf:f .any = .any) (j:Nat) : ∀ T:Tm,m8 (YE f T) j=f (m8 T j)
 | []=>hf.symm
 | (i,v)::r=>by
  simp only[YE,m8,S3 hf j r];by_cases h:j=i<;>simp [h]
theorem yL (f:AV->AV) : ∀ (i:Nat) (vs:List AV),C0 i (vs.map f)=YE f (C0 i vs)
 | _,[]=>rfl
 | i,v::r=>by simp only[List.map_cons,C0,YE,yL f (i+1) r]
theorem oL (j:Nat) (b:Tm) : ∀ a:Tm,((a.any λ p=>p.1 == j)=true/\m8 (a++b) j=m8 a j)\/((a.any λ p=>p.1 == j)=false/\m8 (a++b) j=m8 b j)
 | []=>Or.inr ⟨rfl,rfl⟩
 | (i,v)::r=>by
  by_cases h:j=i
  ·subst h
   exact Or.inl (by simp [m8])
  ·have h' : ¬ i=j:=λ e=>h e.symm
   rcases oL j b r with ⟨h1,h2⟩|⟨h1,h2⟩
   ·exact Or.inl ⟨by rw[List.any_cons,h1,Bool.or_true],by simp only[List.cons_append,m8,if_neg h,h2]⟩
   ·exact Or.inr ⟨by rw[List.any_cons,h1,Bool.or_false];simpa using h',by simp only[List.cons_append,m8,if_neg h,h2]⟩
theorem yF (j:Nat) : ∀ (i:Nat) (vs:List AV),((C0 i vs).any λ p=>p.1 == j)=true->j<i+vs.length
 | _,[],h=>by simp [C0]at h
 | i,v::r,h=>by
  simp only[C0,List.any_cons,Bool.or_eq_true,beq_iff_eq]at h;rcases h with h|h
  ·simp;omega
  ·have:=yF j (i+1) r h
   simp;omega
theorem Nh (j:Nat) : ∀ (i:Nat) (vs:List AV),((C0 i vs).any λ p=>p.1 == j)=false->m8 (C0 i vs) j = .any
 | _,[],_=>rfl
 | i,v::r,h=>by
  simp only[C0,List.any_cons,Bool.or_eq_false_iff,beq_eq_false_iff_ne]at h;simp only[C0,m8];rw[if_neg λ e=>h.1 e.symm,Nh j (i+1) r h.2]
theorem XC (σ:F5):BI σ .any = .any:=rfl
def fG (tm:Tm):List O3->Option (List AV)
 | []=>some []
 | .tmp t::r=>match K7 (tg tm t),fG tm r with
  | some v,some vs=>some (v::vs)
  | _,_=>none
 | .cell _ _ _::_=>none
def nX (N:Nat):List O3->Bool
 | []=>true
 | .tmp t::r=>Nat.blt t N&&nX N r
 | .cell _ _ _::_=>false
def Xi (N:Nat) (fn:AFn) (tm:Tm) (K:AV->Mem->Prop) (fp:Tm) (M':Mem):Prop:=gh N fp=tm /\ ∃ rs,fG fp fn.res=some rs/\K (I2 rs) M'
theorem Apq {σ:F5} {v u:AV} (h:K7 v=some u):u=v/\BI σ v=BR σ v/\K7 (BI σ v)=some (BI σ v):=by
 cases v<;>simp [K7]at h<;>subst h<;>exact ⟨rfl,rfl,rfl⟩
theorem Oa {σ:F5} {fp:Tm} {M:Mem} {s s':St} (hr:RX σ fp M s') (sj : ∀ j,j<N->m8 s'.tm j=m8 s.tm j) : ∀ {res:List O3} {rs:List AV},nX N res=true->fG fp res=some rs->res.mapM (FG s)=some (rs.map (BR σ)) /\ ∀ v∈rs,BI σ v=BR σ v
 | [],rs,_,h=>by
  simp only[fG,Option.some.injEq]at h;subst h;exact ⟨rfl,by simp⟩
 | .cell _ _ _::_,_,_,h=>by simp [fG]at h
 | .tmp t::r,rs,hl,h=>by
  simp only[nX,Bool.and_eq_true]at hl;simp only[fG]at h;cases h1:K7 (tg fp t) with
  | none=>rw[h1]at h;simp at h
  | some v =>
   cases h2:fG fp r with
   | none=>rw[h1,h2]at h;simp at h
   | some vs =>
    rw[h1,h2]at h;simp only[Option.some.injEq]at h;subst h;obtain ⟨i1,i2⟩:=Oa hr sj hl.2 h2;obtain ⟨rfl,j2,j3⟩:=Apq (σ:=σ) h1;have:m8 s.tm t=BI σ (tg fp t):=by
     rcases hr.tm t with e|e
     ·rw[e]at h1;cases h1
     ·rw[<-sj t (gG.1 hl.1),e]
    refine ⟨?_,?_⟩
    ·rw[j2]at j3 this
     simp only[List.mapM_cons,FG,this,j3,i1,List.map_cons];rfl
    ·intro v hv
     simp only[List.mem_cons]at hv;rcases hv with rfl|hv
     ·exact j2
     ·exact i2 v hv
theorem Afq {σ:F5} {rs:List AV} (h : ∀ v∈rs,BI σ v=BR σ v):I2 (rs.map (BR σ))=BI σ (I2 rs):=by
 match rs,h with
 | [],_=>rfl
 | [v],h=>exact (h v (by simp)).symm
 | _::_::_,_=>rfl
theorem FY {f:Nat} {fn:AFn} {vs:List AV} {tm:Tm} {M:Mem} {K:AV->Mem->Prop} (N:Nat) (hL:L f=some fn) (hp:Nat.beq vs.length fn.fo=true) (hN:(Nat.ble fn.fo N&&(JV N fn.body&&nX N fn.res))=true)
  (h:AA L [.code fn.body] (C0 0 vs++GS N tm) M (Xi N fn tm K)):A8 L f vs tm M K:=by
 intro σ own hs;simp only[Bool.and_eq_true]at hN;obtain ⟨n1,n2,n3⟩:=hN;have n1:=Nat.le_of_ble_eq_true n1;have hp:vs.length=fn.fo:=Nat.eq_of_beq_eq_true hp;have Su:RX σ (C0 0 vs++GS N tm) M ⟨YE (BI σ) (C0 0 vs++GS N tm),own⟩:=⟨λ j=>Or.inr (by rw[S0];exact S3 (XC σ) j _),hs⟩;obtain ⟨n,c,s',hr,σ',fp,M',hR,hg,rs,Gv,hk⟩:=h σ _ Su;have Rm:Gh N (YE (BI σ) (GS N tm)) (C0 0 (vs.map (BI σ))) (YE (BI σ) (C0 0 vs++GS N tm)):=by
  constructor
  ·intro j hj
   rw[yL,S3 (XC σ),S3 (XC σ)];rcases oL j (GS N tm) (C0 0 vs) with ⟨_,e⟩|⟨hn,e⟩
   ·rw[e]
   ·rw[e,Nj hj,Nh j 0 vs hn]
  ·intro j hj
   rw[S3 (XC σ),S3 (XC σ)];rcases oL j (GS N tm) (C0 0 vs) with ⟨hn,e⟩|⟨_,e⟩
   ·have:=yF j 0 vs hn
    omega
   ·rw[e]
 obtain ⟨s,r1,r2,r3⟩:=LB n (by simp [eL,n2]) Rm hr;obtain ⟨i1,i2⟩:=Oa (s:=s) hR r3.lo n3 Gv;refine ⟨I2 rs,s.own,σ',M',GU.intro hL (by simpa using hp) ⟨n,c,s,r1,?_,rfl⟩,?_,?_,hk⟩
 ·rw[i1,Option.map_some,Afq i2]
 ·rw[<-r2];exact hR.sat
 ·intro j
  have e1:tg tm j=tg fp (N+j):=by rw[S0,S0,<-hg,Nf]
  rcases hR.tm (N+j) with e|e
  ·rw[e1,e];rfl
  ·rw[e1,<-e,r3.hi (N+j) (by omega),S3 (XC σ),Ni,<-S0,e1]
theorem jF {α:Type} {enc:α->List AV} {l:List α} {i:Nat} {vs:List AV} {K:List (List AV)->Prop} (n:Nat) (e:α) (hn:i=n) (he:vs=enc e) (hz : ∀ x,(enc x).length=vs.length) (hi:n<l.length) (h:K ((l.set n e).map enc)):A7 (l.map enc) i 0 vs K:=by
 subst hn;exact AhF e he hz hi h
theorem HU {x:Int} {len:Nat} {K:Nat->Nat->Prop} (h:Nat) (hx:x=h) (hl:h<=len) (hk:K 0 h):BO none (some x) len K:=⟨0,h,rfl,⟨by omega,by omega,by omega⟩,by omega,hk⟩
end Go.e9

namespace Go.e9
abbrev BB:Nat:=4294967296
@[irreducible] def ER (a b : Nat) : Nat := (a + 18446744073709551616 - b) % 18446744073709551616
theorem iU (a b:Nat):ER a b=(a+18446744073709551616-b)%18446744073709551616:=by unfold ER;rfl
def val:List Nat->Nat
 | []=>0
 | d::l=>d+4294967296*val l
def A3 (l:List Nat):Prop := ∀ d∈l,d<4294967296
def dg (n:Nat):List Nat:=if h:n=0 then [] else n%4294967296::dg (n/4294967296)
termination_by n
decreasing_by omega
theorem E8:dg 0=[]:=by rw[dg];simp
theorem OM {n:Nat} (h:n≠0):dg n=n%4294967296::dg (n/4294967296):=by rw[dg];simp [h]
theorem OB:val []=0:=rfl
theorem dO (d:Nat) (l:List Nat):val (d::l)=d+4294967296*val l:=rfl
theorem B5 (n:Nat):val (dg n)=n:=by
 induction n using Nat.strongRecOn with
 | ind n ih =>
  by_cases h:n=0
  ·subst h;rw[E8];rfl
  ·rw[OM h,dO,ih _ (by omega)]
   omega
theorem EA (n:Nat):A3 (dg n):=by
 induction n using Nat.strongRecOn with
 | ind n ih =>
  by_cases h:n=0
  ·subst h;rw[E8];intro d hd;cases hd
  ·rw[OM h]
   intro d hd;rcases List.mem_cons.1 hd with rfl|hd
   ·omega
   ·exact ih _ (by omega) d hd
theorem A3.tail {d:Nat} {l:List Nat} (h:A3 (d::l)):A3 l:=λ x hx=>h x (List.mem_cons_of_mem _ hx)
theorem A3.head {d:Nat} {l:List Nat} (h:A3 (d::l)):d<4294967296:=h d List.mem_cons_self
theorem A3.at {l:List Nat} (h:A3 l) {i d:Nat} (hd:l[i]? = some d):d<4294967296:=h d (zM hd)
theorem A3.take {l:List Nat} (h:A3 l) (n:Nat):A3 (l.take n):=λ x hx=>h x (List.mem_of_mem_take hx)
theorem A3.drop {l:List Nat} (h:A3 l) (n:Nat):A3 (l.drop n):=λ x hx=>h x (List.mem_of_mem_drop hx)
theorem jP:A3 []:=λ_ h=>by cases h
theorem A3.append {a b:List Nat} (h:A3 a) (h':A3 b):A3 (a++b):=λ x hx=>(List.mem_append.1 hx).elim (h x) (h' x)
theorem II {d:Nat} (h:d<4294967296):A3 [d]:=λ x hx=>by simp at hx;omega
theorem A3.set {l:List Nat} (h:A3 l) (i:Nat) {d:Nat} (hd:d<4294967296):A3 (l.set i d):=λ x hx=>by
 rcases List.mem_or_eq_of_mem_set hx with h1|h1
 ·exact h x h1
 ·omega
theorem ON (n:Nat):A3 (List.replicate n 0):=λ x hx=>by rw[(List.mem_replicate.1 hx).2];omega
theorem kZ (a b:List Nat):val (a++b)=val a+4294967296^a.length*val b:=by
 induction a with
 | nil=>simp [val]
 | cons d l ih=>rw[List.cons_append,dO,dO,ih,List.length_cons,Nat.pow_succ];grind
theorem bC (l:List Nat) (v:Nat):val (l++[v])=val l+4294967296^l.length*v:=by
 rw[kZ];simp [val]
theorem FA {l:List Nat} (h:A3 l):val l<4294967296^l.length:=by
 induction l with
 | nil=>simp [val]
 | cons d l ih =>
  have h1:=ih h.tail;have h2:=h.head;rw[dO,List.length_cons,Nat.pow_succ];omega
theorem EC {l:List Nat} {i v:Nat} (h:l[i]? = some v):val (l.take (i+1))=val (l.take i)+4294967296^i*v:=by
 have hi:=(zS h).1;rw[List.take_add_one,h,Option.toList_some,bC,List.length_take,Nat.min_eq_left (by omega)]
theorem S6 (l:List Nat) (i:Nat) (h:i<=l.length):val l=val (l.take i)+4294967296^i*val (l.drop i):=by
 have:=kZ (l.take i) (l.drop i)
 rw[List.take_append_drop,List.length_take,Nat.min_eq_left h]at this;exact this
theorem tX (n:Nat):val (List.replicate n 0)=0:=by
 induction n with
 | zero=>rfl
 | succ n ih=>rw[List.replicate_succ,dO,ih]
theorem AjR {l:List Nat} (h:A3 l) (ht:l=[] \/ ∃ d,l[l.length-1]? = some d/\d≠0):dg (val l)=l:=by
 induction l with
 | nil=>exact E8
 | cons d l ih =>
  have h1:=h.head;by_cases hl:l=[]
  ·subst hl
   rcases ht with ht|⟨x,hx,xj⟩
   ·cases ht
   ·simp at hx
    subst hx;rw[dO,OB,OM (by omega),show (d+4294967296*0)/4294967296=0 by omega,E8,show (d+4294967296*0)%4294967296=d by omega]
  ·have tc : ∃ x,l[l.length-1]? = some x/\x≠0:=by
    rcases ht with ht|⟨x,hx,xj⟩
    ·cases ht
    ·refine ⟨x,?_,xj⟩
     have:l.length≠0:=λ e=>hl (List.eq_nil_of_length_eq_zero e)
     rw[List.length_cons,show l.length+1-1=(l.length-1)+1 by omega,List.getElem?_cons_succ]at hx;exact hx
   have Uh:=ih h.tail (Or.inr tc);have Fj:val l≠0:=by
    intro e;rw[e,E8]at Uh;exact hl Uh.symm
   rw[dO,OM (by omega),show (d+4294967296*val l)/4294967296=val l by omega,Uh,show (d+4294967296*val l)%4294967296=d by omega]
theorem GO {l:List Nat} (h:A3 l) {n:Nat} (hn:n<=l.length) (hz : ∀ i,n<=i->i<l.length->l[i]? = some 0) (ht:n=0 \/ ∃ d,l[n-1]? = some d/\d≠0):l.take n=dg (val l):=by
 have hv:val l=val (l.take n):=by
  have h0:l.drop n=List.replicate (l.length-n) 0:=by
   apply List.ext_getElem?;intro i;rw[List.getElem?_drop,List.getElem?_replicate];by_cases hi:n+i<l.length
   ·rw[hz (n+i) (by omega) hi,if_pos (by omega)]
   ·rw[List.getElem?_eq_none (by omega),if_neg (by omega)]
  rw[S6 l n hn,h0,tX];omega
 rw[hv];refine (AjR (h.take n) ?_).symm;rcases ht with rfl|⟨d,hd,Bl⟩
 ·exact Or.inl (by simp)
 ·have v9:=(zS hd).1
  by_cases zf:n=0
  ·subst zf;exact Or.inl (by simp)
  ·refine Or.inr ⟨d,?_,Bl⟩
   rw[List.length_take,Nat.min_eq_left hn,List.getElem?_take,if_pos (by omega)];exact hd
theorem bS {n k:Nat}:(dg n).length<=k↔n<4294967296^k:=by
 induction k generalizing n with
 | zero =>
  by_cases h:n=0
  ·subst h;simp [E8]
  ·rw[OM h];simp;omega
 | succ k ih =>
  by_cases h:n=0
  ·subst h;simp [E8];exact Nat.pos_of_ne_zero (by simp)
  ·rw[OM h,List.length_cons,Nat.succ_le_succ_iff,ih,Nat.pow_succ]
   rw[Nat.div_lt_iff_lt_mul (by omega)]
theorem E2 {l:List Nat} (h:A3 l):(dg (val l)).length<=l.length:=bS.2 (FA h)
theorem vW {n:Nat} (h:n≠0) : ∃ d,(dg n)[(dg n).length-1]? = some d/\d≠0:=by
 induction n using Nat.strongRecOn with
 | ind n ih =>
  rw[OM h];by_cases h2:n/4294967296=0
  ·rw[h2,E8]
   exact ⟨n%4294967296,by simp,by omega⟩
  ·obtain ⟨d,hd,Bl⟩:=ih _ (by omega) h2
   refine ⟨d,?_,Bl⟩;have hl:(dg (n/4294967296)).length≠0:=λ e=>by rw[List.eq_nil_of_length_eq_zero e]at hd;simp at hd
   rw[List.length_cons,show (dg (n/4294967296)).length+1-1=(dg (n/4294967296)).length-1+1 by omega,List.getElem?_cons_succ];exact hd
theorem vT {n:Nat}:dg n=[]↔n=0:=by
 constructor
 ·intro h
  by_cases h0:n=0
  ·exact h0
  ·rw[OM h0]at h;cases h
 ·rintro rfl;exact E8
theorem mI {n:Nat} (h:n≠0):1<=(dg n).length:=by rw[OM h];simp
theorem ApN {o:List Nat} {i v:Nat} (h:i<o.length):(o.set i v).take (i+1)=o.take i++[v]:=by
 rw[List.take_add_one,List.getElem?_set_self h,List.take_set_of_le (Nat.le_refl i)];rfl
theorem GF {o:List Nat} {i v:Nat} (h:i<o.length):val ((o.set i v).take (i+1))=val (o.take i)+4294967296^i*v:=by
 rw[ApN h,bC,List.length_take,Nat.min_eq_left (by omega)]
theorem cQ (V p t:Nat):V+p*(t%4294967296)+p*4294967296*(t/4294967296)=V+p*t:=by
 have h:=Nat.mod_add_div t 4294967296;have:p*(t%4294967296)+p*4294967296*(t/4294967296)=p*t:=by
  rw[Nat.mul_assoc,<-Nat.mul_add,h]
 omega
theorem DG {l:List Nat} {n:Nat} (h:l.length<=n):val (l.take n)=val l:=by rw[List.take_of_length_le h]
theorem Aff (i:Nat):1<=4294967296^i:=Nat.pos_of_ne_zero (by simp)
theorem HT {l:List Nat} {i d:Nat} (h:l[i]? = some d):val (l.drop i)=d+4294967296*val (l.drop (i+1)):=by
 obtain ⟨hi,rfl⟩:=zS h;rw[List.drop_eq_getElem_cons hi,dO]
theorem tS {a b:List Nat} (ha:A3 a) (hb:A3 b) (hl:a.length=b.length) {i:Nat} {x y:Nat} (hx:a[i]? = some x) (hy:b[i]? = some y) (he:a.drop (i+1)=b.drop (i+1)) (h:x<y):val a<val b:=by
 have hia:=(zS hx).1;have hib:=(zS hy).1;rw[S6 a i (by omega),S6 b i (by omega),HT hx,HT hy,he];have h1:=FA (ha.take i);rw[List.length_take,Nat.min_eq_left (by omega)]at h1;generalize val (b.drop (i+1))=r;generalize 4294967296^i=p at *;have:p*(x+4294967296*r)+p<=p*(y+4294967296*r):=by
  rw[<-Nat.mul_succ];exact Nat.mul_le_mul_left p (by omega)
 omega
theorem tU {o:List Nat} {k v old:Nat} (h:o[k]? = some old):val (o.set k v)+4294967296^k*old=val o+4294967296^k*v:=by
 have hk:=(zS h).1;have h1:val (o.set k v)=val (o.take k)+4294967296^k*(v+4294967296*val (o.drop (k+1))):=by
  rw[S6 (o.set k v) k (by simp;omega),List.take_set_of_le (Nat.le_refl k),HT (l:=o.set k v) (d:=v) (by rw[List.getElem?_set_self hk]),List.drop_set_of_lt (by omega)]
 have h2:val o=val (o.take k)+4294967296^k*(old+4294967296*val (o.drop (k+1))):=by
  rw[S6 o k (by omega),HT h]
 rw[h1,h2,Nat.mul_add,Nat.mul_add];omega
theorem oI {l:List Nat} (h:A3 l):l.take (dg (val l)).length=dg (val l):=by
 induction l with
 | nil=>rw[OB,E8];rfl
 | cons d l ih =>
  have h1:=h.head;by_cases h0:val (d::l)=0
  ·rw[h0,E8];rfl
  ·rw[OM h0,dO,show (d+4294967296*val l)/4294967296=val l by omega,show (d+4294967296*val l)%4294967296=d by omega,List.length_cons,List.take_succ_cons,ih h.tail]
theorem lC {a b:Nat} (h:(dg a).length<(dg b).length):a<b:=by
 have h1:a<4294967296^(dg a).length:=bS.1 (Nat.le_refl _);have h2 : ¬ b<4294967296^((dg b).length-1):=λ h3=>by have:=bS.2 h3;omega
 have h3:4294967296^(dg a).length<=4294967296^((dg b).length-1):=Nat.pow_le_pow_right (by omega) (by omega);omega
end Go.e9

namespace Go.e9
section
variable {K:AV->Prop} {a b:Nat} {k':IntKind}
theorem wrap_u32 (n:Nat):IntKind.u32.wrap (n:Int)=((n%4294967296:Nat):Int):=by rw[IntKind.wrap_u32];omega
theorem AqW (n:Nat):IntKind.u64.wrap (n:Int)=((n%18446744073709551616:Nat):Int):=by
 simp [IntKind.wrap,IntKind.bits,IntKind.signed]
theorem GH (h:a+b<=18446744073709551615) (hk:K (.int .u64 ((a+b:Nat):Int))):AC .add .u64 (a:Int) .u64 (b:Int) K :=
 ⟨_,by simp only[DW,if_true];rw[IntWalk.u64_in _ (by omega)],by simpa using hk⟩
theorem OD (h:b<=a) (h2:a<=18446744073709551615) (hk:K (.int .u64 ((a-b:Nat):Int))):AC .sub .u64 (a:Int) .u64 (b:Int) K :=
 ⟨_,by simp only[DW,if_true];rw[IntWalk.u64_in _ (by omega)],by rw[show (a:Int)-b=((a-b:Nat):Int) by omega];exact hk⟩
theorem pI (h:b<=18446744073709551616) (hk:K (.int .u64 ((ER a b:Nat):Int))):AC .sub .u64 (a:Int) .u64 (b:Int) K :=
 pD (v := .int .u64 (IntKind.u64.wrap ((a:Int)-b))) (by simp only[DW,if_true]) (by
  have e:IntKind.u64.wrap ((a:Int)-b)=((ER a b:Nat):Int):=by
   rw[iU];simp only[IntKind.wrap,IntKind.bits,IntKind.signed];simp;omega
  rw[e];exact hk)
theorem cK (h:a*b<=18446744073709551615) (hk:K (.int .u64 ((a*b:Nat):Int))):AC .mul .u64 (a:Int) .u64 (b:Int) K :=
 ⟨_,by simp only[DW,if_true];rw[<-Int.natCast_mul,IntWalk.u64_in _ (by omega)],hk⟩
theorem pG (h:0<b) (h2:a<=18446744073709551615) (hk:K (.int .u64 ((a/b:Nat):Int))):AC .quo .u64 (a:Int) .u64 (b:Int) K:=by
 refine ⟨_,by simp only[DW];rw[if_pos ⟨trivial,by omega⟩],?_⟩;rw[IntWalk.u64_quo _ _ ⟨by omega,by omega,by omega⟩,<-Int.natCast_ediv];exact hk
theorem lL (h:0<b) (hk:K (.int .u64 ((a%b:Nat):Int))):AC .rem .u64 (a:Int) .u64 (b:Int) K:=by
 refine ⟨_,by simp only[DW];rw[if_pos ⟨trivial,by omega⟩],?_⟩;rw[IntWalk.rem_in _ _ (by omega),<-Int.natCast_emod];exact hk
theorem ApR {k:IntKind} {n:Nat} (hn:n<=k.bits):DW .shl k (a:Int) k' (n:Int)=some (.int k (k.wrap ((a*2^n:Nat):Int))):=by
 simp only[DW];rw[if_neg (by omega),Int.toNat_natCast,Nat.min_eq_left hn];simp
theorem ApT {k:IntKind} {n:Nat} (hn:n<=k.bits):DW .shr k (a:Int) k' (n:Int)=some (.int k ((a/2^n:Nat):Int)):=by
 simp only[DW];rw[if_neg (by omega),Int.toNat_natCast,Nat.min_eq_left hn,Int.fdiv_eq_ediv_of_nonneg _ (Int.le_of_lt (Int.pow_pos (by omega)))];simp
theorem uG {k:IntKind} {n:Nat} (hn:n<=k.bits) (hk:K (.int k (k.wrap ((a*2^n:Nat):Int)))):AC .shl k (a:Int) k' (n:Int) K:=⟨_,ApR hn,hk⟩
theorem cM {k:IntKind} {n:Nat} (hn:n<=k.bits) (hk:K (.int k ((a/2^n:Nat):Int))):AC .shr k (a:Int) k' (n:Int) K:=⟨_,ApT hn,hk⟩
theorem bJ (h:a<=4294967295) (hk:K (.int .u64 ((a*4294967296:Nat):Int))):AC .shl .u64 (a:Int) k' 32 K:=by
 refine uG (n:=32) (by decide) ?_;rw[AqW,show a*2^32%18446744073709551616=a*4294967296 by omega];exact hk
theorem FN (hk:K (.int .u64 ((a/4294967296:Nat):Int))):AC .shr .u64 (a:Int) k' 32 K:=cM (n:=32) (by decide) hk
theorem pH (hk:K (.int .u64 ((a/9223372036854775808:Nat):Int))):AC .shr .u64 (a:Int) k' 63 K:=cM (n:=63) (by decide) hk
theorem Ahr (hk:K (.int .u64 ((a/4:Nat):Int))):AC .shr .u64 (a:Int) k' 2 K:=cM (n:=2) (by decide) hk
theorem Ahq (hk:K (.int .u32 ((a/65536:Nat):Int))):AC .shr .u32 (a:Int) k' 16 K:=cM (n:=16) (by decide) hk
theorem Ahs (hk:K (.int .u32 ((a/256:Nat):Int))):AC .shr .u32 (a:Int) k' 8 K:=cM (n:=8) (by decide) hk
theorem Ahp (hk:K (.int .u32 ((a/2:Nat):Int))):AC .shr .u32 (a:Int) k' 1 K:=cM (n:=1) (by decide) hk
theorem zT (w n:Nat):(BitVec.ofInt w (n:Int)).toNat=n%2^w:=by rw[BitVec.toNat_ofInt];omega
theorem AoV {n x y:Nat} (hx:x%2^n=0) (hy:y<2^n):x ||| y=x+y:=by
 have e:x=2^n*(x/2^n):=by have:=Nat.mod_add_div x (2^n);omega
 rw[e,<-Nat.two_pow_add_eq_or_of_lt hy]
theorem uF {k:IntKind} (n:Nat) (hx:a%2^n=0) (hy:b<2^n) (h:a+b<2^k.bits) (hw:k.wrap ((a+b:Nat):Int)=((a+b:Nat):Int)) (hk:K (.int k ((a+b:Nat):Int))):AC .or k (a:Int) k (b:Int) K:=by
 refine pD (v := .int k (k.wrap (BitVec.ofInt k.bits (a:Int) ||| BitVec.ofInt k.bits (b:Int)).toNat)) (by simp only[DW,if_true]) ?_;rw[BitVec.toNat_or,zT,zT,Nat.mod_eq_of_lt (by omega),Nat.mod_eq_of_lt (by omega),AoV hx hy,hw];exact hk
theorem cL (h:a%4294967296=0/\b<4294967296/\a+b<=18446744073709551615) (hk:K (.int .u64 ((a+b:Nat):Int))):AC .or .u64 (a:Int) .u64 (b:Int) K :=
 uF 32 h.1 h.2.1 (show a+b<18446744073709551616 by omega) (IntWalk.u64_in _ (by omega)) hk
theorem Xd (h:a<=18446744073709551615) (hk:K (.int .u64 ((a%4294967296:Nat):Int))):AC .and .u64 (a:Int) .u64 4294967295 K:=by
 refine pD (v := .int .u64 (IntKind.u64.wrap (BitVec.ofInt IntKind.u64.bits (a:Int) &&& BitVec.ofInt IntKind.u64.bits 4294967295).toNat)) (by simp only[DW,if_true]) ?_;rw[BitVec.toNat_and,zT,show (BitVec.ofInt IntKind.u64.bits 4294967295).toNat=2^32-1 by decide,Nat.and_two_pow_sub_one_eq_mod,show a%2^IntKind.u64.bits=a from Nat.mod_eq_of_lt (show a<18446744073709551616 by omega),IntWalk.u64_in _ (by omega)];exact hk
theorem Xc (hk:K (.int .u32 (((a+b)%4294967296:Nat):Int))):AC .add .u32 (a:Int) .u32 (b:Int) K :=
 pD (v := .int .u32 (IntKind.u32.wrap ((a:Int)+b))) (by simp only[DW,if_true]) (by rw[<-Int.natCast_add,wrap_u32];exact hk)
end
section
variable {K:Int->Prop} {n:Nat}
theorem Wu (h:n<=18446744073709551615) (hk:K (n:Int)):AR .u64 (n:Int) K:=lF (IntWalk.u64_in _ (by omega)) hk
theorem EJ (h:n<=4294967295) (hk:K (n:Int)):AR .u32 (n:Int) K:=lF (IntWalk.u32_in _ (by omega)) hk
theorem F9 (hk:K ((n%4294967296:Nat):Int)):AR .u32 (n:Int) K:=by unfold AR;rw[wrap_u32];exact hk
theorem Ahi (h:n<=255) (hk:K (n:Int)):AR .u8 (n:Int) K:=lF (IntWalk.u8_in _ (by omega)) hk
end
theorem pO {tb:List Nat} {n v:Nat} {K:Nat->Prop} (hv:tb[n]? = some v) (hk:K v):gD tb (n:Int) K:=⟨by omega,v,by rw[Int.toNat_natCast];exact hv,hk⟩
abbrev AL (n:Nat):List AV:=[.int .u32 (n:Int)]
theorem CS (l:List Nat):F2 (l.map AL):=jM (λ_=>by simp [CW,A6]) l
section
variable {l:List Nat} {K:List AV->Prop}
theorem pJ {n:Nat} (hD:A3 l) (hn:n<l.length) (h : ∀ e,l[n]? = some e->e<4294967296->K (AL e)):AW (l.map AL) (n:Int) 1 K :=
 AhA hn (λ_=>rfl) λ e he=>h e he (hD.at he)
theorem dV {a:Int} (hD:A3 l) (hn:0<=a/\a<l.length) (h : ∀ e,l[a.toNat]? = some e->e<4294967296->K (AL e)):AW (l.map AL) a 1 K :=
 uJ hn (λ_=>rfl) λ e he=>h e he (hD.at he)
theorem Xb {i:Nat} (hD:A3 l) (hi:i<l.length) (h : ∀ e,l[i]? = some e->e<4294967296->K (AL e)):BD (l.map AL) (0+((i:Int)).toNat) 0 1 K :=
 O5 (f:=AL) hi (λ_=>rfl) λ e he=>h e he (hD.at he)
theorem fZ {i:Int} (hD:A3 l) (hi:0<=i/\i<l.length) (h : ∀ e,l[i.toNat]? = some e->e<4294967296->K (AL e)):BD (l.map AL) (0+i.toNat) 0 1 K :=
 oX (f:=AL) hi (λ_=>rfl) λ e he=>h e he (hD.at he)
theorem FH {i v:Nat} {KK:List (List AV)->Prop} (hi:i<l.length) (h:KK ((l.set i v).map AL)):A7 (l.map AL) (0+((i:Int)).toNat) 0 [.int .u32 (v:Int)] KK:=FP (enc:=AL) v rfl (λ_=>rfl) hi h
theorem pM {i v:Nat} {KK:List (List AV)->Prop} (n:Nat) (hn:i=n) (hi:n<l.length) (h:KK ((l.set n v).map AL)):A7 (l.map AL) i 0 [.int .u32 (v:Int)] KK:=jF (enc:=AL) n v hn rfl (λ_=>rfl) hi h
end
end Go.e9
namespace Go.e9
variable {L:Lib}
theorem Ev.xE {f:Nat} {fn:AFn} {vs:List AV} {P:AV->Prop} (hL:L f=some fn) (hp:Nat.beq vs.length fn.fo=true) (hd:U1 vs=true) (h:AA L [.code fn.body] (C0 0 vs) [] (λ tm M => ∃ r,dW fn r tm M/\P r)) (hs:fn.uq=false:=by rfl) : ∃ r,Ev L f vs r/\P r:=by
 obtain ⟨n,c,o7,hr,σ,tm,M,hR,r,hq,hP⟩:=h (λ_ _=>(0,0)) ⟨C0 0 vs,AH.emp⟩ ⟨λ j=>Or.inr (by rw[S0];exact mG hd j),⟨(λ_ _ _ e=>by cases e),(λ_ _ _ e=>by simp [g8,l6]at e),(λ_ _ _ e=>by simp [g8,l6]at e),(λ_ _ _ _ _ _ e=>by simp [g8,l6]at e),(λ_ _ _ e=>by simp [g8,l6]at e)⟩⟩;exact ⟨r,Ev.fwd hL (BN.1 hp) ⟨n,c,o7,hr,Xk hR hq⟩ hs,hP⟩
def kP:D8->Bool
 | .ff .. | .box .. | .alloc .. | .m4 .. | .st .. | .mk .. | .app .. | .m7 .. | .y7 .. | .rm .. | .bm .. | .ru .. | .gj .. => false
 | _=>true
def JW:BJ->Bool
 | .skip=>true
 | .ops l _=>l.all λ a=>kP a.op
 | .dr c _ ss=>JW c&&ss.isEmpty
 | .scope c=>JW c
 | .seq a b=>JW a&&JW b
 | .cond _ a b=>JW a&&JW b
 | .block _ c=>JW c
 | .loop c=>JW c
 | .exit _=>true
 | .ret=>true
def dC:It->Bool
 | .code c=>JW c
 | .oc _ ss=>ss.isEmpty
 | .m5 _=>true
 | .lp c=>JW c
theorem Ale {C:Cl} {g9:List Nat} {ρ:AP->AV} {own:AH} {op:D8} {E:CG} (ho:kP op=true) (h:m6 C g9 ρ own op=some E) : ∃ v,E = .val v:=by
 cases op<;>first|(simp [kP]at ho;done)|skip
 all_goals simp only[m6]at h
 all_goals
  first
   | (simp only[Option.some.injEq]at h;exact ⟨_,h.symm⟩)
   | (simp only[Option.map_eq_some_iff]at h;obtain ⟨_,_,rfl⟩:=h;exact ⟨_,rfl⟩)
   | skip
 all_goals (repeat' split at h)
 all_goals
  first
   | (cases h;done)
   | (simp only[Option.some.injEq]at h;exact ⟨_,h.symm⟩)
   | (simp only[Option.map_eq_some_iff]at h;obtain ⟨_,_,rfl⟩:=h;exact ⟨_,rfl⟩)
theorem Aqd {C:Cl} {a:AI} (ho:kP a.op=true) {s s':St} (h:C9 C a s=some s'):s'.own=s.own:=by
 unfold C9 at h;split at h
 ·cases he:m6 C a.g9 s.ev s.own a.op with
  | none=>rw[he]at h;cases h
  | some E =>
   rw[he]at h;obtain ⟨v,rfl⟩:=Ale ho he;simp only[Option.map_some,Option.some.injEq]at h;subst h;simp only[St.app];cases a.dst<;>rfl
 ·simp only[Option.some.injEq]at h
  subst h;cases a.dst<;>rfl
 ·cases h
theorem Agb {C:Cl} : ∀ {l:List AI},(l.all λ a=>kP a.op)=true -> ∀ {s s':St},DE C l s=some s'->s'.own=s.own
 | [],_,s,s',h=>by simp only[DE,Option.some.injEq]at h;rw[h]
 | a::l,ho,s,s',h=>by
  simp only[List.all_cons,Bool.and_eq_true]at ho;simp only[DE]at h;cases h1:C9 C a s with
  | none=>rw[h1]at h;cases h
  | some s1 =>
   rw[h1]at h;rw[Agb ho.2 h,Aqd ho.1 h1]
theorem mV {id:Nat} : ∀ {k k':List It},k.all dC=true->D6 id k=some k'->k'.all dC=true
 | [],_,_,h=>by simp [D6]at h
 | it::k,k',hk,h=>by
  simp only[List.all_cons,Bool.and_eq_true]at hk;cases it with
  | m5 i =>
   simp only[D6]at h;split at h
   ·cases h;exact hk.2
   ·exact mV hk.2 h
  | code c=>simp only[D6]at h;exact mV hk.2 h
  | oc a b=>simp only[D6]at h;exact mV hk.2 h
  | lp c=>simp only[D6]at h;exact mV hk.2 h
theorem L1 {C:Cl} : ∀ (n:Nat) {k:List It},k.all dC=true -> ∀ {s s':St},run C n k s=some s'->s'.own=s.own
 | 0,k,_,s,s',h=>by simp [run]at h
 | n+1,[],_,s,s',h=>by
  simp only[run,Option.some.injEq]at h;rw[h]
 | n+1,it::k,hk,s,s',h=>by
  have ml:=hk;simp only[List.all_cons,Bool.and_eq_true]at hk;obtain ⟨hi,hk⟩:=hk;cases it with
  | m5 _=>simp only[run]at h;exact L1 n hk h
  | oc ts ss =>
   have:ss=[]:=by simpa [dC] using hi
   subst this;simp only[run]at h;rw[L1 n hk h];rfl
  | lp c=>simp only[run]at h;exact L1 n (by simp only[List.all_cons,Bool.and_eq_true];exact ⟨hi,hi,hk⟩) h
  | code c =>
   cases c with
   | skip=>simp only[run]at h;exact L1 n hk h
   | ops l d =>
    simp only[run]at h;cases h1:DE C l s with
    | none=>rw[h1]at h;cases h
    | some s1 =>
     rw[h1]at h;rw[L1 n hk h,Agb (show (l.all λ a=>kP a.op)=true from hi) h1]
   | dr c ts ss =>
    simp only[run]at h;simp only[dC,JW,Bool.and_eq_true]at hi;exact L1 n (by simp only[List.all_cons,Bool.and_eq_true];exact ⟨hi.1,hi.2,hk⟩) h
   | scope c=>simp only[run]at h;exact L1 n (by simp only[List.all_cons,Bool.and_eq_true];exact ⟨hi,hk⟩) h
   | seq a b =>
    simp only[run]at h;simp only[dC,JW,Bool.and_eq_true]at hi;exact L1 n (by simp only[List.all_cons,Bool.and_eq_true];exact ⟨hi.1,hi.2,hk⟩) h
   | cond x a b =>
    simp only[dC,JW,Bool.and_eq_true]at hi;simp only[run]at h;split at h
    ·exact L1 n (by simp only[List.all_cons,Bool.and_eq_true];exact ⟨hi.1,hk⟩) h
    ·exact L1 n (by simp only[List.all_cons,Bool.and_eq_true];exact ⟨hi.2,hk⟩) h
    ·cases h
   | block id c=>simp only[run]at h;exact L1 n (by simp only[List.all_cons,Bool.and_eq_true];exact ⟨hi,rfl,hk⟩) h
   | loop c=>simp only[run]at h;exact L1 n (by simp only[List.all_cons,Bool.and_eq_true];exact ⟨hi,hi,hk⟩) h
   | exit id =>
    simp only[run]at h;split at h
    ·rename_i k' he
     exact L1 n (mV hk he) h
    ·cases h
   | ret =>
    simp only[run,Option.some.injEq]at h;rw[h]
def AhC (fn:AFn) (r:AV) (tm:Tm) (_M:Mem):Prop := ∃ rs,fG tm fn.res=some rs/\I2 rs=r
def qO:AV->Bool
 | .m9 vs=>U1 vs
 | v=>eB v
theorem Zm {σ:F5} {v:AV} (h:qO v=true):BI σ v=v:=by
 cases v with
 | m9 vs =>
  simp only[BI];congr 1;simp only[qO]at h;induction vs with
  | nil=>rfl
  | cons v r ih =>
   simp only[U1]at h;cases hv:eB v<;>simp only[hv,cond_true,cond_false]at h
   ·cases h
   ·rw[List.map_cons,ih h]
    congr 1;cases v<;>first|rfl|(simp [eB,yi]at hv;done)|skip
    rename_i cs;exact qN (σ:=σ) (v := .agg cs) hv
 | _=>exact qN (σ:=σ) h
def lN (L:Lib) (f:Nat) (vs:List AV) (r:AV):Prop:=qO r=true/\(∀ σ:F5,vs.map (BI σ)=vs) /\ ∀ own:AH,GU L f vs own r own
theorem Zk {σ:F5} : ∀ {vs:List AV},U1 vs=true->vs.map (BI σ)=vs
 | [],_=>rfl
 | v::r,h=>by
  simp only[U1]at h;cases hv:eB v<;>simp only[hv,cond_true,cond_false]at h
  ·cases h
  ·rw[List.map_cons,qN hv,Zk h]
theorem AhD {f:Nat} {fn:AFn} {vs:List AV} {r:AV} (hL:L f=some fn) (hp:Nat.beq vs.length fn.fo=true) (hd:U1 vs=true) (Jv:JW fn.body=true) (v9:nX 100000 fn.res=true) (hr:qO r=true) (h:AA L [.code fn.body] (C0 0 vs) [] (AhC fn r)):lN L f vs r:=by
 refine ⟨hr,λ σ=>Zk hd,λ own => ?_⟩;obtain ⟨n,c,o7,bf,σ,tm,M,hR,rs,Gv,he⟩:=h (λ_ _=>(0,0)) ⟨C0 0 vs,own⟩ ⟨λ j=>Or.inr (by rw[S0];exact mG hd j),⟨(λ_ _ _ e=>by cases e),(λ_ _ _ e=>by simp [g8,l6]at e),(λ_ _ _ e=>by simp [g8,l6]at e),(λ_ _ _ _ _ _ e=>by simp [g8,l6]at e),(λ_ _ _ e=>by simp [g8,l6]at e)⟩⟩;have ho:=L1 n (by simp [dC,Jv]) bf;obtain ⟨i1,i2⟩:=Oa (N:=100000) (s:=o7) hR (λ_ _=>rfl) v9 Gv;refine GU.intro hL (BN.1 hp) ⟨n,c,o7,bf,?_,ho⟩;rw[i1,Option.map_some,Afq i2,he,Zm hr]
theorem TS {f:Nat} {vs:List AV} {r:AV} {tm:Tm} {M:Mem} {K:AV->Mem->Prop} (h:lN L f vs r) (hk:K r M):A8 L f vs tm M K:=by
 intro σ own hs;refine ⟨r,own,σ,M,?_,hs,λ_=>rfl,hk⟩;rw[h.2.1 σ,Zm h.1];exact h.2.2 own
end Go.e9

namespace Go.e9
variable {L:Lib}
def Xj (fn:AFn) (z:Nat) (es:List (List AV)) (tm:Tm) (M:Mem):Prop:=match fn.res with
 | [.tmp t]=>match tg tm t with
  | .row k 0 z' 0 n=>match l6 M k with
   | some (_,.rw mg es')=>z'=z/\mg=z/\n=es.length/\es'=es/\F2 es
   | _=>False
  | _=>False
 | _=>False
theorem cI.x {f:Nat} {fn:AFn} {vs:List AV} {z:Nat} {es:List (List AV)} (hL:L f=some fn) (hp:Nat.beq vs.length fn.fo=true) (hd:U1 vs=true) (h:AA L [.code fn.body] (C0 0 vs) [] (Xj fn z es)):cI L f vs z es:=by
 obtain ⟨n,c,o7,hr,σ,tm,M,hR,hq⟩:=h (λ_ _=>(0,0)) ⟨C0 0 vs,AH.emp⟩ ⟨λ j=>Or.inr (by rw[S0];exact mG hd j),⟨(λ_ _ _ e=>by cases e),(λ_ _ _ e=>by simp [g8,l6]at e),(λ_ _ _ e=>by simp [g8,l6]at e),(λ_ _ _ _ _ _ e=>by simp [g8,l6]at e),(λ_ _ _ e=>by simp [g8,l6]at e)⟩⟩;unfold Xj at hq;split at hq
 ·rename_i t uc
  split at hq
  ·rename_i k z' m htm
   split at hq
   ·rename_i s mg es' hM
    obtain ⟨rfl,rfl,rfl,rfl,z7⟩:=hq;have hv:m8 o7.tm t = .row (σ k 0).1 (σ k 0).2 mg 0 es'.length:=by
     rcases hR.tm t with e|e
     ·rw[htm]at e;cases e
     ·rw[e,htm];rfl
    have hb:=hR.sat.m5 k 0 (.rw mg es') (by simp only[g8,hM]);obtain ⟨q,hq⟩:=GU.intro (r := .row (σ k 0).1 (σ k 0).2 mg 0 es'.length) (o':=o7.own) hL (BN.1 hp) ⟨n,c,o7,hr,by simp [uc,FG,hv,K7,I2],rfl⟩;refine ⟨q,?_⟩;simp only[hq,bL,AH.get,hb];rw[if_pos (show (A9.m5 σ k (.rw mg es')).es.length=es'.length/\F2 (A9.m5 σ k (.rw mg es')).es from ⟨rfl,z7⟩)];rfl
   ·exact hq.elim
  ·exact hq.elim
 ·exact hq.elim
theorem bG {α:Type} {enc:α->List AV} {l:List α} {f z:Nat} {vs:List AV} {K:Nat->List (List AV)->Nat->Prop} (n:Nat) (h:cI L f vs z (l.map enc)) (hn:n=l.length) (hk:K z (l.map enc) n):CM L f vs K:=⟨z,_,n,h,by simpa using hn,hk⟩
end Go.e9

namespace Go.e9
open F
attribute [local irreducible] AA AF AM AC CK AR AW BD A7 BW AQ BT CD DB BP A4 BO CE AB A8 AJ pw B4 BK CF CI CN CX CJ BS CM
variable {L:Lib}
set_option maxHeartbeats 1000000
def DD (a b:Int):Int:=if a<b then -1 else if b<a then 1 else 0
theorem JZ {a b:Int} (h:a<b) : -1=DD a b:=by unfold DD;rw[if_pos h]
theorem bR {a b:Int} (h:b<a):1=DD a b:=by unfold DD;rw[if_neg (by omega),if_pos h]
theorem gJ {a b:Int} (h:a=b):0=DD a b:=by unfold DD;rw[if_neg (by omega),if_neg (by omega)]
theorem AlK (N:l9 L) (a:Int):Ev L 58 [.int .i64 a] (.bool false):=by
 refine Ev.x N.XL rfl rfl ?_;(repeat' ((first|(apply AG<;>intro hc<;>try (exfalso;omega))|apply AE)<;>conv=>whnf))
 exact JR rfl
theorem AlL (N:l9 L) (a:Int):Ev L 59 [.int .u32 a] (.bool false):=by
 refine Ev.x N.XM rfl rfl ?_;(repeat' ((first|(apply AG<;>intro hc<;>try (exfalso;omega))|apply AE)<;>conv=>whnf))
 exact JR rfl
theorem Aln (N:l9 L) (a b:Int):Ev L 60 [.int .i64 a,.int .i64 b] (.int .i64 (DD a b)):=by
 refine Ev.x N.XH rfl rfl ?_;(repeat' ((first|(apply AG<;>intro hc<;>try (exfalso;omega))|apply AE|refine AD (AlK N _) ?_)<;>conv=>whnf))
 ·exact DC (JZ (by omega))
 ·exact DC (bR (by omega))
 ·exact DC (gJ (by omega))
theorem Alo (N:l9 L) (a b:Int):Ev L 61 [.int .u32 a,.int .u32 b] (.int .i64 (DD a b)):=by
 refine Ev.x N.XJ rfl rfl ?_;(repeat' ((first|(apply AG<;>intro hc<;>try (exfalso;omega))|apply AE|refine AD (AlL N _) ?_)<;>conv=>whnf))
 ·exact DC (JZ (by omega))
 ·exact DC (bR (by omega))
 ·exact DC (gJ (by omega))
theorem Yu (N:l9 L) (l:List Nat) (q:Bool) (hl:l.length<=1099511627776):Ev L 62 [.sl q (l.map AL)] (.sl false (l.map AL)):=by
 cases l with
 | nil =>
  refine GA.nil N.IR (GA.x N.IR rfl rfl ?_) (GA.x N.IR rfl rfl ?_)
  ·(repeat' (apply AE<;>conv=>whnf))
   exact AY rfl (by simp [A6,F2])
  ·(repeat' (apply AE<;>conv=>whnf))
   refine uA (enc:=AL) (l:=[]) (l':=[]) rfl (λ_=>rfl) (by simp) (by simp) ?_;(conv=>whnf)
   (repeat' ((refine DR (λ_=>rfl) rfl ?_ ?_;(first|rfl|simp))<;>conv=>whnf))
   exact AY rfl (by simp [A6,F2])
 | cons d l =>
  refine GA.cons (GA.x N.IR rfl rfl ?_);(repeat' (apply AE<;>conv=>whnf))
  refine A0 (by simp) ?_;(conv=>whnf)
  skip
  refine uA (enc:=AL) (l:=[]) (l':=d::l) rfl (λ_=>rfl) (by simp at hl ⊢;omega) (by simp at hl ⊢;omega) ?_;(conv=>whnf)
  (repeat' ((refine DR (λ_=>rfl) rfl ?_ ?_;(first|rfl|simp))<;>conv=>whnf))
  exact AY rfl (by simp only[A6,true_and];exact CS (d::l))
theorem XB (N:l9 L) (l:List Nat) (q:Bool) (hD:A3 l) (hl:l.length<=1099511627776):lN L 65 [.sl q (l.map AL)] (.sl q ((dg (val l)).map AL)):=by
 refine AhD N.F6 rfl rfl rfl rfl rfl ?_;(repeat' ((first|apply AU|apply AE)<;>conv=>whnf))
 refine B6 (λ n=>n) (λ(n:Nat)=>n<=l.length /\ ∀ i,n<=i->i<l.length->l[i]? = some 0) (λ n=>[(3,.int .i64 n)]) (λ_=>[]) [] [] l.length (by (conv=>whnf);exact ⟨rfl,rfl,rfl⟩) ⟨Nat.le_refl _,λ i h1 h2=>by omega⟩ ?_;intro n ⟨p1,p2⟩ ih;rcases n with _|n
 ·(repeat' ((first|(apply AG<;>intro hc<;>try (exfalso;omega))|apply AE)<;>conv=>whnf))
  refine gB (k:=0) (λ_=>rfl) (by omega) ?_;(conv=>whnf)
  refine ⟨_,rfl,?_⟩;rw[GO hD p1 p2 (Or.inl rfl)];rfl
 ·have e1:((n+1:Nat):Int)-1=n:=by omega
  (repeat' ((first|(apply AG<;>intro hc<;>try (exfalso;omega))|(apply CB;omega)|(refine dV (by assumption) ?_ (λ e he hb => ?_);omega)|apply AE)<;>conv=>whnf))
  ·rw[e1]
   exact BL [] (ih n (by omega) ⟨by omega,λ i h1 h2=>by
    by_cases h:i=n
    ·subst h
     rw[e1,Int.toNat_natCast]at he;rw[he];congr 1;omega
    ·exact p2 i (by omega) h2⟩)
  ·refine gB (k:=n+1) (λ_=>rfl) (by omega) ?_
   (conv=>whnf)
   refine ⟨_,rfl,?_⟩;rw[e1,Int.toNat_natCast]at he;rw[GO hD p1 p2 (Or.inr ⟨e,he,by omega⟩)];rfl
theorem mM (N:l9 L) (l:List Nat) (q:Bool) (hD:A3 l) (hl:l.length<=1099511627776):Ev L 66 [.sl q (l.map AL)] (.sl false ((dg (val l)).map AL)):=by
 have hc:=E2 hD;refine Ev.x N.YO rfl rfl ?_;(repeat' ((first|apply AE|refine TS (XB N l _ hD hl) ?_|refine AD (Yu N (dg (val l)) _ (by omega)) ?_)<;>conv=>whnf))
 exact AY rfl (by simp only[A6,true_and];exact CS _)
theorem Ajb {a b:Nat} (h:((dg a).length:Int)≠(dg b).length):DD (dg a).length (dg b).length=DD a b:=by
 rcases Nat.lt_trichotomy (dg a).length (dg b).length with h1|h1|h1
 ·have:=lC h1
  rw[<-JZ (by omega),<-JZ (by omega)]
 ·omega
 ·have:=lC h1
  rw[<-bR (by omega),<-bR (by omega)]
theorem cX (N:l9 L) (a b:List Nat) (q1 q2:Bool) (hA:A3 a) (hB:A3 b) (la:a.length<=1099511627776) (lb:b.length<=1099511627776):Ev L 67 [.sl q1 (a.map AL),.sl q2 (b.map AL)] (.int .i64 (DD (val a) (val b))):=by
 have l1:=E2 hA;have l2:=E2 hB;have d1:=EA (val a);have d2:=EA (val b);refine Ev.x N.YK rfl rfl ?_;(repeat' ((first|(apply AG<;>intro hc<;>try (exfalso;omega))|(apply CB;omega)|apply AU|apply AE|refine TS (XB N a _ hA la) ?_|refine TS (XB N b _ hB lb) ?_|refine AD (Aln N _ _) ?_)<;>conv=>whnf))
 ·exact DC (Ajb (by omega))
 have hlen:(dg (val a)).length=(dg (val b)).length:=by omega
 have v1:=B5 (val a);have v2:=B5 (val b);generalize dg (val a)=X at *;generalize dg (val b)=Y at *;refine B6 (λ n=>n) (λ(n:Nat)=>n<=X.length/\X.drop n=Y.drop n) (λ n=>[(7,.int .i64 ((n:Int)-1))]) (λ_=>[]) [] [] X.length (by (conv=>whnf);exact ⟨rfl,rfl,rfl⟩) ⟨Nat.le_refl _,by rw[List.drop_of_length_le (Nat.le_refl _),List.drop_of_length_le (by omega)]⟩ ?_;intro n ⟨p1,p2⟩ ih;rcases n with _|n
 ·(repeat' ((first|(apply AG<;>intro hc<;>try (exfalso;omega))|apply AE)<;>conv=>whnf))
  rw[List.drop_zero,List.drop_zero]at p2;exact DC (gJ (by rw[<-v1,<-v2,p2]))
 ·have e1:((n+1:Nat):Int)-1=n:=by omega
  rw[e1];(repeat' ((first|(apply AG<;>intro hc<;>try (exfalso;omega))|(apply CB;omega)|(refine BH (by assumption) ?_ rfl ?_;omega)|(refine pJ (by assumption) ?_ (λ e he hb => ?_);omega)|apply AE|refine AD (Alo N _ _) ?_)<;>conv=>whnf))
  ·rename_i x hx _
   rcases Nat.lt_trichotomy x e with h|h|h
   ·have:=tS d1 d2 hlen hx he p2 h
    refine DC ?_;rw[<-JZ (by omega),<-JZ (by omega)]
   ·omega
   ·have:=tS d2 d1 hlen.symm he hx p2.symm h
    refine DC ?_;rw[<-bR (by omega),<-bR (by omega)]
  ·rename_i x hx _
   refine B3 [] (by (conv=>whnf);exact ⟨rfl,rfl,rfl⟩) (ih n (by omega) ⟨by omega,?_⟩);obtain ⟨i1,e1⟩:=zS hx;obtain ⟨i2,e2⟩:=zS he;rw[List.drop_eq_getElem_cons i1,List.drop_eq_getElem_cons i2,p2,e1,e2];congr 1;omega
end Go.e9

namespace Go.e9
section
variable {U V UL VL p u0 u1 u2 v1 v2 top q r:Nat}
theorem AmY (hU:U=UL+p*(u2+4294967296*top)) (hV:V=VL+p*(v2+4294967296*v1)) (hl:UL<p) (h2:u2<4294967296) (fg:0<V):U/V*v1<=top:=by
 have h1:U/V*V<=U:=Nat.div_mul_le_self U V;generalize U/V=Q at *;have h3:U<p*(4294967296*(top+1)):=by
  have:p*(u2+4294967296*top)+p<=p*(4294967296*(top+1)):=by
   rw[<-Nat.mul_succ];exact Nat.mul_le_mul_left p (by omega)
  omega
 have h4:p*(4294967296*(Q*v1))<=Q*V:=by
  have e:Q*V=Q*VL+Q*(p*v2)+p*(4294967296*(Q*v1)):=by rw[hV];grind
  omega
 have h5:p*(4294967296*(Q*v1))<p*(4294967296*(top+1)):=by omega
 have:=Nat.lt_of_mul_lt_mul_left h5
 omega
theorem AmX (hU:U=UL+p*(u2+4294967296*top)) (hV:V=VL+p*(v2+4294967296*v1)) (hl:UL<p) (hq:q*v1+r=top) (h:r*4294967296+u2<q*v2) (fg:0<V):U/V<q:=by
 rw[Nat.div_lt_iff_lt_mul fg];have e:q*V=q*VL+p*(q*v2+4294967296*(q*v1)):=by rw[hV];grind
 have h1:p*(u2+4294967296*top)+p<=p*(q*v2+4294967296*(q*v1)):=by
  rw[<-Nat.mul_succ];exact Nat.mul_le_mul_left p (by omega)
 omega
theorem AmW (h:U<4294967296*V) (hq:4294967296<=q) (fg:0<V):U/V<q:=by
 have:U/V<4294967296:=(Nat.div_lt_iff_lt_mul fg).2 h
 omega
theorem AdC (hU:U=UL+p*(u2+4294967296*top)) (hV:V=VL+p*(v2+4294967296*v1)) (Ee:VL<p) (h1:2147483648<=v1) (hq:q*v1+r=top) (h:q*v2<=r*4294967296+u2) (hqB:q<4294967296):q<=U/V+1:=by
 have fg:0<V:=by
  have:p*4294967296<=p*(v2+4294967296*v1):=Nat.mul_le_mul_left p (by omega)
  omega
 by_cases h0:q=0
 ·subst h0;exact Nat.zero_le _
 have e:q*V=q*VL+p*(q*v2+4294967296*(q*v1)):=by rw[hV];grind
 have h2:p*(q*v2+4294967296*(q*v1))<=p*(u2+4294967296*top):=Nat.mul_le_mul_left p (by omega);have h3:q*VL<V:=by
  have a1:q*VL<=4294967296*VL:=Nat.mul_le_mul_right _ (by omega);have a2:p*4294967296<=p*(v2+4294967296*v1):=Nat.mul_le_mul_left p (by omega);omega
 have h4:(q-1)*V<U+1:=by
  have:(q-1)*V+V=q*V:=by
   have:q=q-1+1:=by omega
   rw[<-Nat.succ_mul,Nat.succ_eq_add_one,<-this]
  omega
 have h5:q-1<=U/V:=(Nat.le_div_iff_mul_le fg).2 (by omega);omega
end
theorem Zr {U V U' q:Nat} (fg:0<V) (h1:U/V<=q) (h:U'+q*V=U):q=U/V/\U'=U%V:=by
 have h2:q*V<=U:=by omega
 have h3:q<=U/V:=(Nat.le_div_iff_mul_le fg).2 h2;have h4:q=U/V:=by omega
 have:=Nat.div_add_mod U V
 rw[Nat.mul_comm,<-h4]at this;exact ⟨h4,by omega⟩
theorem Zq {U V U' q P:Nat} (fg:0<V) (h2:q<=U/V+1) (Gg:U'<P) (h:U'+q*V=U+P):q-1=U/V/\1<=q/\U'+V=U%V+P:=by
 have h3:U/V*V<=U:=Nat.div_mul_le_self U V;have h4:U/V<q:=by
  rcases Nat.lt_or_ge (U/V) q with h|h
  ·exact h
  ·have:q*V<=U/V*V:=Nat.mul_le_mul_right _ h
   omega
 have h6:=Nat.div_add_mod U V;rw[Nat.mul_comm]at h6;generalize U/V=Q at *;generalize U%V=R at *;obtain rfl:q=Q+1:=by omega
 rw[Nat.add_mul,Nat.one_mul]at h;exact ⟨by omega,by omega,by omega⟩
theorem tN {u pl bw:Nat} (hu:u<4294967296) (hp:pl<4294967296) (hb:bw<=1):ER (ER u pl) bw%4294967296+pl+bw=u+4294967296*(ER (ER u pl) bw/9223372036854775808)/\ER (ER u pl) bw/9223372036854775808<=1:=by
 rw[iU,iU];omega
theorem Aqi {d e bw:Nat} (hu:d<4294967296) (hp:e<4294967296) (hb:bw<=1):ER (ER d bw) e%4294967296+e+bw=d+4294967296*(ER (ER d bw) e/9223372036854775808)/\ER (ER d bw) e/9223372036854775808<=1:=by
 rw[iU,iU];omega
theorem Aqh {d bw:Nat} (hu:d<4294967296) (hb:bw<=1):ER d bw%4294967296+bw=d+4294967296*(ER d bw/9223372036854775808)/\ER d bw/9223372036854775808<=1:=by
 rw[iU];omega
theorem Agd {V Y X p D e bw gn d:Nat} (h:V+Y=X+p*bw) (hd:D+e+bw=d+4294967296*gn):V+p*D+(Y+p*e)=X+p*d+p*4294967296*gn:=by
 have h2:p*D+p*e+p*bw=p*d+p*4294967296*gn:=by
  rw[<-Nat.mul_add,<-Nat.mul_add,hd,Nat.mul_add,Nat.mul_assoc]
 omega
theorem kF {a b:Nat} (ha:a<4294967296) (hb:b<4294967296):a*b<=18446744065119617025 :=
 Nat.mul_le_mul (show a<=4294967295 by omega) (show b<=4294967295 by omega)
theorem Zs {X Y s:Nat} (hs:0<s):X*s/(Y*s)=X/Y/\X*s%(Y*s)/s=X%Y:=by
 refine ⟨Nat.mul_div_mul_right X Y hs,?_⟩;rw[Nat.mul_mod_mul_right,Nat.mul_div_cancel _ hs]
end Go.e9
